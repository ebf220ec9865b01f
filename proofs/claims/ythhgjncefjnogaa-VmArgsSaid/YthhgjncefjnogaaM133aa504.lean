/- Texts of this proof, one behind the other. What is proved, and on which conditions, stands ahead of each. -/
import Derived.Test.YthhgjncefjnogaaProg
import Derived.Test.YthhgjncefjnogaaM12d84c4e
import Derived.Test.YthhgjncefjnogaaM6eedefe

/- What vm.Go answers. Conditions: GoOk. -/
set_option linter.unusedVariables false
set_option linter.unusedSimpArgs false
namespace Go.Gv
open Go.Proofs

def cloneM_r0 : List AI := [⟨(some 2), none, (.op (.mv (.c .nils)))⟩]
def cloneM_r1 : List AI := [⟨(some 3), none, (.op (.mv (.t 0)))⟩, ⟨(some 4), none, (.nq 0 false (.t 3))⟩]
def cloneM_r2 : List AI := [⟨(some 2), none, (.op (.mv (.c .nils)))⟩]
def cloneM_r3 : List AI := [⟨(some 5), none, (.op (.bslm 1000163000 1 3 0 (.int .i64 0) []))⟩, ⟨(some 6), none, (.op (.mv (.t 0)))⟩, ⟨(some 7), none, (.op (.appw 1000163000 1 3 8 (.t 5) (.t 6)))⟩, ⟨(some 2), none, (.op (.mv (.t 7)))⟩]
def cloneM_c : AC := (.seq (.reg cloneM_r0) (.seq (.seq (.reg cloneM_r1) (.cond (.t 4) (.seq (.reg cloneM_r2) .ret) .skip)) (.seq (.reg cloneM_r3) .ret)))
def cloneM_res : List ARes := [(.tmp 2)]
set_option maxRecDepth 100000 in
theorem cloneM_get : getF Try.prog 63 163000 [(5, 1000000000), (7, 1000000000)] = some ("slices.Clone[[]int,int]", 8, cloneM_c, cloneM_res) := by kernel_rfl
def mgo_r0 : List AI := [⟨(some 5), none, (.op (.box 84005 4 (.t 0)))⟩, ⟨(some 7), none, (.op (.box 84007 5 (.t 2)))⟩, ⟨(some 10), none, (.op (.new 84010 7 (.agg [.nils, (.bool false), (.int .i64 0), (.int .i64 0), (.int .i64 0), .nils, (.int .i64 0)])))⟩]
def mgo_r1 : List AI := [⟨(some 15), none, (.op (.fld 0 (.t 5)))⟩, ⟨(some 16), none, (.op (.load none (.t 15)))⟩, ⟨(some 17), none, (.op (.mv (.t 3)))⟩, ⟨(some 18), none, (.op (.idx 2 (.t 16) (.t 17)))⟩, ⟨(some 19), none, (.op (.fld 1 (.t 18)))⟩, ⟨(some 20), none, (.op (.load none (.t 19)))⟩, ⟨(some 11), none, (.op (.mv (.t 20)))⟩]
def mgo_r2 : List AI := [⟨(some 21), none, (.op (.load (some 4) (.t 5)))⟩, ⟨(some 22), none, (.op (.mv (.t 1)))⟩, ⟨(some 23), none, (.op (.mv (.t 4)))⟩, ⟨(some 24), none, (.op (.load (some 5) (.t 7)))⟩, ⟨(some 25), none, (.op (.build [.nils, .nils, .nils, (.int .i64 0), (.int .i64 0), .nils, .nils, (.bool false), (.int .i64 0), (.int .i64 0), (.int .i64 0), .nils, .nils, (.int .i64 0)] [(0, (4, (.t 21))), (4, (1, (.t 22))), (5, (1, (.t 23))), (6, (5, (.t 24)))]))⟩, ⟨(some 26), none, (.op (.box 84026 14 (.t 25)))⟩, ⟨(some 12), none, (.op (.mv (.t 26)))⟩]
def mgo_r3 : List AI := [⟨(some 27), none, (.op (.mv (.t 12)))⟩, ⟨(some 28), none, (.op (.fld 0 (.t 7)))⟩, ⟨(some 29), none, (.op (.load none (.t 28)))⟩, ⟨(some 30), none, (.call (.c (.fn 63 [])) [(.t 29)])⟩, ⟨(some 31), none, (.op (.nilck (.t 27)))⟩, ⟨(some 32), none, (.op (.fld 6 (.t 31)))⟩, ⟨(some 33), none, (.op (.fld 0 (.t 32)))⟩, ⟨none, none, (.op (.store 1 (.t 33) (.t 30)))⟩]
def mgo_r4 : List AI := [⟨(some 13), none, (.op (.mv (.c (.int .i64 0))))⟩]
def mgo_r5 : List AI := [⟨(some 34), none, (.op (.mv (.t 12)))⟩, ⟨(some 35), none, (.op (.nilck (.t 34)))⟩, ⟨(some 36), none, (.op (.fld 13 (.t 35)))⟩, ⟨(some 37), none, (.op (.load none (.t 36)))⟩, ⟨(some 38), none, (.op (.ibin .geq (.t 37) (.c (.int .i64 0))))⟩, ⟨(some 39), none, (.op (.mv (.t 38)))⟩, ⟨(some 40), (some (39, true)), (.op (.mv (.t 12)))⟩, ⟨(some 41), (some (39, true)), (.op (.nilck (.t 40)))⟩, ⟨(some 42), (some (39, true)), (.op (.fld 13 (.t 41)))⟩, ⟨(some 43), (some (39, true)), (.op (.load none (.t 42)))⟩, ⟨(some 44), (some (39, true)), (.op (.mv (.t 11)))⟩, ⟨(some 45), (some (39, true)), (.op (.len (.t 44)))⟩, ⟨(some 46), (some (39, true)), (.op (.ibin .lss (.t 43) (.t 45)))⟩, ⟨(some 47), none, (.op (.pick (.t 39) (.t 46) (.c (.bool false))))⟩]
def mgo_r6 : List AI := [⟨(some 14), none, (.op (.mv (.c (.int .i64 2))))⟩]
def mgo_r7 : List AI := [⟨(some 48), none, (.op (.mv (.t 13)))⟩, ⟨(some 49), none, (.op (.fld 3 (.t 5)))⟩, ⟨(some 50), none, (.op (.load none (.t 49)))⟩, ⟨(some 51), none, (.op (.ibin .lss (.t 48) (.t 50)))⟩]
def mgo_r8 : List AI := [⟨(some 52), none, (.op (.mv (.t 13)))⟩, ⟨(some 53), none, (.op (.ibin .add (.t 52) (.c (.int .i64 1))))⟩, ⟨(some 13), none, (.op (.mv (.t 53)))⟩]
def mgo_r9 : List AI := [⟨(some 54), none, (.op (.mv (.t 12)))⟩, ⟨(some 55), none, (.op (.mv (.t 11)))⟩, ⟨(some 56), none, (.op (.mv (.t 12)))⟩, ⟨(some 57), none, (.op (.nilck (.t 56)))⟩, ⟨(some 58), none, (.op (.fld 13 (.t 57)))⟩, ⟨(some 59), none, (.op (.load none (.t 58)))⟩, ⟨(some 60), none, (.op (.idx 2 (.t 55) (.t 59)))⟩, ⟨(some 61), none, (.op (.load (some 2) (.t 60)))⟩, ⟨(some 62), none, (.call (.c (.fn 98 [])) [(.t 54), (.t 61)])⟩, ⟨(some 14), none, (.op (.mv (.t 62)))⟩]
def mgo_r10 : List AI := [⟨(some 63), none, (.op (.mv (.t 14)))⟩, ⟨(some 64), none, (.op (.ibin .neq (.t 63) (.c (.int .i64 0))))⟩]
def mgo_r11 : List AI := [⟨(some 65), none, (.op (.fld 0 (.t 7)))⟩, ⟨(some 66), none, (.op (.load none (.t 65)))⟩, ⟨(some 67), none, (.call (.c (.fn 63 [])) [(.t 66)])⟩, ⟨(some 68), none, (.op (.mv (.t 14)))⟩, ⟨(some 69), none, (.op (.fld 0 (.t 7)))⟩, ⟨none, none, (.op (.store 1 (.t 69) (.t 67)))⟩, ⟨(some 70), none, (.op (.fld 2 (.t 7)))⟩, ⟨none, none, (.op (.store 1 (.t 70) (.t 68)))⟩]
def mgo_r12 : List AI := [⟨(some 71), none, (.op (.load (some 5) (.t 7)))⟩, ⟨(some 72), none, (.op (.mv (.t 13)))⟩, ⟨(some 73), none, (.op (.build [.nils, (.bool false), (.int .i64 0), (.int .i64 0), (.int .i64 0), .nils, (.int .i64 0)] [(0, (5, (.t 71))), (6, (1, (.t 72)))]))⟩, ⟨none, none, (.op (.store 7 (.t 10) (.t 73)))⟩]
def mgo_l0 : AC := (.seq (.seq (.reg mgo_r5) (.cond (.t 47) .skip (.exit 0))) (.block 1 (.seq (.reg mgo_r6) (.seq (.seq (.reg mgo_r7) (.cond (.t 51) (.seq (.reg mgo_r8) (.reg mgo_r9)) .skip)) (.seq (.reg mgo_r10) (.cond (.t 64) (.seq (.reg mgo_r11) (.seq (.reg mgo_r12) .ret)) .skip))))))
def mgo_r13 : List AI := [⟨(some 74), none, (.op (.mv (.t 12)))⟩, ⟨(some 75), none, (.op (.nilck (.t 74)))⟩, ⟨(some 76), none, (.op (.fld 6 (.t 75)))⟩, ⟨(some 77), none, (.op (.fld 3 (.t 76)))⟩, ⟨(some 78), none, (.op (.load none (.t 77)))⟩, ⟨(some 79), none, (.op (.mv (.t 12)))⟩, ⟨(some 80), none, (.op (.nilck (.t 79)))⟩, ⟨(some 81), none, (.op (.fld 12 (.t 80)))⟩, ⟨(some 82), none, (.op (.load none (.t 81)))⟩, ⟨(some 83), none, (.op (.len (.t 82)))⟩, ⟨(some 84), none, (.op (.ibin .add (.t 78) (.t 83)))⟩, ⟨(some 85), none, (.op (.nilck (.t 74)))⟩, ⟨(some 86), none, (.op (.fld 6 (.t 85)))⟩, ⟨(some 87), none, (.op (.fld 3 (.t 86)))⟩, ⟨none, none, (.op (.store 1 (.t 87) (.t 84)))⟩]
def mgo_p13 : List (List Nat) := [[], [0], [1, 0], [2, 1, 0], [3, 2, 1, 0], [], [5], [6, 5], [7, 6, 5], [8, 7, 6, 5], [4, 9, 3, 2, 1, 0, 8, 7, 6, 5], [0, 1, 2, 3, 4, 5, 6, 7, 8, 9, 10], [11, 0, 1, 2, 3, 4, 5, 6, 7, 8, 9, 10], [12, 0, 1, 2, 3, 4, 5, 6, 7, 8, 9, 10, 11], [13, 10, 0, 1, 2, 3, 4, 5, 6, 7, 8, 9, 12, 11]]
def mgo_r14 : List AI := [⟨(some 88), none, (.op (.mv (.t 12)))⟩, ⟨(some 89), none, (.op (.nilck (.t 88)))⟩, ⟨(some 90), none, (.op (.fld 6 (.t 89)))⟩, ⟨(some 91), none, (.op (.load (some 5) (.t 90)))⟩, ⟨(some 92), none, (.op (.mv (.t 12)))⟩, ⟨(some 93), none, (.op (.nilck (.t 92)))⟩, ⟨(some 94), none, (.op (.fld 12 (.t 93)))⟩, ⟨(some 95), none, (.op (.load none (.t 94)))⟩, ⟨(some 96), none, (.op (.mv (.t 13)))⟩, ⟨(some 97), none, (.op (.build [.nils, (.bool false), (.int .i64 0), (.int .i64 0), (.int .i64 0), .nils, (.int .i64 0)] [(0, (5, (.t 91))), (5, (1, (.t 95))), (6, (1, (.t 96)))]))⟩, ⟨none, none, (.op (.store 7 (.t 10) (.t 97)))⟩]
def mgo_p14 : List (List Nat) := [[], [0], [1, 0], [2, 1, 0], [], [4], [5, 4], [6, 5, 4], [], [3, 7, 8, 2, 1, 0, 6, 5, 4], [9, 0, 1, 2, 3, 4, 5, 6, 7, 8]]
def mgo_c : AC := (.seq (.reg mgo_r0) (.seq (.reg mgo_r1) (.seq (.reg mgo_r2) (.seq (.reg mgo_r3) (.seq (.reg mgo_r4) (.seq (.block 0 (.loop mgo_l0)) (.seq (.regd mgo_r13 mgo_p13) (.seq (.regd mgo_r14 mgo_p14) .ret))))))))
def mgo_res : List ARes := [(.cell (some 7) 10)]
set_option maxRecDepth 100000 in
theorem mgo_get : getF Try.prog 84 84000 [] = some ("gavotte/vm.Go", 98, mgo_c, mgo_res) := by kernel_rfl
attribute [simp] cloneM_r0 cloneM_r1 cloneM_r2 cloneM_r3 cloneM_res mgo_r0 mgo_r1 mgo_r2 mgo_r3 mgo_r4 mgo_r5 mgo_r6 mgo_r7 mgo_r8 mgo_r9 mgo_r10 mgo_r11 mgo_r12 mgo_r13 mgo_p13 mgo_r14 mgo_p14 mgo_res

theorem clonem_v (l : List Int) (hl : l.length ≤ 1000) {S : St} {k : AV → St → Prop} {u : Dep k}
    (hk : ∀ v S', Fr Lm S S' → S'.blk 84026 = S.blk 84026 → RegIs S' v l → k v S') : CallG Try.prog (.fn 63 []) [ints l] S k u := by
  refine callV cloneM_get (by simp) (by simp) ?_
  unfold cloneM_c
  cases l with
  | nil =>
    simp [ints]
    refine opG_none _ _ ?_ ?_
    · simp
      exact hk _ _ (Fr.here (fun n hn => by simp [ne_of_Lm hn, Lm]) (fun n hn => by first | rfl | simp [ne_of_Lm hn, Lm]) (by omega)) rfl (.inl ⟨rfl, rfl⟩)
    · simp
      exact hk _ _ (Fr.here (fun n hn => by simp [ne_of_Lm hn, Lm]) (fun n hn => by first | rfl | simp [ne_of_Lm hn, Lm]) (by omega)) (by simp) (.inr ⟨_, rfl, by simp⟩)
  | cons x l =>
    simp at hl
    simp [ints, show (l.length + 1) * 8 ≤ 140737488355328 by omega]
    exact hk _ _ (Fr.here (fun n hn => by simp [ne_of_Lm hn, Lm]) (fun n hn => by first | rfl | simp [ne_of_Lm hn, Lm]) (by omega)) (by simp) (.inr ⟨_, rfl, by simp⟩)
theorem RegIs.out {S : St} {v : AV} {xs : List Int} (h : RegIs S v xs) : v.one = true ∧ v.cells = [v] := by
  rcases h with ⟨rfl, _⟩ | ⟨st, rfl, _⟩ <;> exact ⟨rfl, rfl⟩
/-- The run of a handler: the machine at its end, or nothing and why it fell; the steps. -/
def runG (F : Fx) (code : List Ins) : Nat → Mach → Int → Option Mach × Int × Int
  | 0, m, s => (none, 2, s)
  | f + 1, m, s =>
    if 0 ≤ m.pc ∧ m.pc < code.length then
      (if s < F.p.fuel then
        (match code[m.pc.toNat]? with
         | some i => if (doV F i m).2 ≠ 0 then (none, (doV F i m).2, s + 1) else runG F code f (doV F i m).1 (s + 1)
         | none => (none, 2, s))
       else (none, 2, s))
    else (some m, 0, s)
structure Res where
  l : Lcl
  notes : List Nt
  steps : Int
def Res.av (r : Res) : AV := .agg [ints r.l.regs, .bool r.l.armed, iv r.l.down, iv r.l.sent, iv r.l.over, .lst 3 (r.notes.map Nt.av), iv r.steps]
def fxOf (p : Prg) (who : Int) (l : Lcl) (args : List Int) : Fx := ⟨p, who, args, l.down, l.sent, l.over, ints args⟩
def m0Of (l : Lcl) : Mach := ⟨0, [], l.regs, [], l.armed⟩
def goR (l : Lcl) : Option Mach × Int × Int → Res
  | (some m, _, s) => ⟨⟨m.regs, m.armed, l.down, w64 (l.sent + m.notes.length), l.over⟩, m.notes, s⟩
  | (none, d, s) => ⟨{ l with down := d }, [], s⟩
/-- All that the machine comes to on its way is in order. -/
def RunOk (F : Fx) (code : List Ins) : Nat → Mach → Int → Prop
  | 0, _, _ => True
  | f + 1, m, s => (0 ≤ m.pc ∧ m.pc < code.length) → s < F.p.fuel → ∀ i, code[m.pc.toNat]? = some i → DoOk F i m ∧ ((doV F i m).2 = 0 → RunOk F code f (doV F i m).1 (s + 1))
theorem ite_notes {c : Prop} [Decidable c] {a b : Mach × Int} {n : Nat} (h1 : a.1.notes.length ≤ n) (h2 : b.1.notes.length ≤ n) : (if c then a else b).1.notes.length ≤ n := by
  by_cases h : c
  · rw [if_pos h]; exact h1
  · rw [if_neg h]; exact h2
theorem doV_notes (F : Fx) (i : Ins) (m : Mach) : (doV F i m).1.notes.length ≤ m.notes.length + 1 := by
  unfold doV
  repeat' apply ite_notes
  all_goals simp
/-- The state of vm.Go ahead of a round. -/
def GI (F : Fx) (p : Prg) (l : Lcl) (x : Hnd) (R : Option Mach × Int × Int) (f : Nat) (S : St) : Prop :=
  ∃ m s, MS F 15 m S ∧ S.t 12 = .ptr 84026 15 14 0 0 ∧ S.t 13 = iv s ∧ S.t 11 = .lst 2 (x.code.map Ins.av) ∧ S.t 5 = .ptr 84005 0 4 0 0 ∧ S.t 7 = .ptr 84007 1 5 0 0 ∧ S.t 10 = .ptr 84010 2 7 0 0 ∧
    S.blk 84005 = some ⟨0, 4, [p.av]⟩ ∧ S.blk 84007 = some ⟨1, 5, [l.av]⟩ ∧ S.blk 84010 = some ⟨2, 7, [.agg [.nils, .bool false, iv 0, iv 0, iv 0, .nils, iv 0]]⟩ ∧ 0 ≤ s ∧ s ≤ p.fuel ∧ (f : Int) = p.fuel - s + 1 ∧ runG F x.code f m s = R ∧ RunOk F x.code f m s ∧ (m.notes.length : Int) ≤ s
theorem go_pc (p : Prg) (who : Int) (l : Lcl) (h : Int) (args : List Int) (x : Hnd) (h0 : 0 ≤ h) (hx : p.hs[h.toNat]? = some x) (hf : 0 ≤ p.fuel ∧ p.fuel ≤ 1000) (hl : l.regs.length ≤ 1000)
    (hok : RunOk (fxOf p who l args) x.code (p.fuel.toNat + 1) (m0Of l) 0) : PC Try.prog 84 [p.av, iv who, l.av, iv h, ints args] (goR l (runG (fxOf p who l args) x.code (p.fuel.toNat + 1) (m0Of l) 0)).av := by
  refine pc_of_get mgo_get (by simp) _ (by simp) _ ?_
  unfold mgo_c
  simp [h0, hx]
  simp [Lcl.av]
  refine clonem_v l.regs hl ?_
  rintro v S1 ⟨ht1, hb1, hk1, hc1⟩ hM hR
  simp at hM
  have hp : S1.blk 84005 = some ⟨0, 4, [p.av]⟩ := by rw [hb1 84005 rfl]; simp [Prg.av]
  have hq : S1.blk 84007 = some ⟨1, 5, [l.av]⟩ := by rw [hb1 84007 rfl]; simp [Lcl.av]
  have hz : S1.blk 84010 = some ⟨2, 7, [.agg [.nils, .bool false, iv 0, iv 0, iv 0, .nils, iv 0]]⟩ := by rw [hb1 84010 rfl]; simp
  obtain ⟨v1, v2⟩ := hR.out
  simp [ht1, hM, v1, v2]
  generalize hF : fxOf p who l args = F at *
  generalize hRR : runG F x.code (p.fuel.toNat + 1) (m0Of l) 0 = R at *
  refine loopM (GI F p l x R) (p.fuel.toNat + 1) ?_ ?_
  · refine ⟨m0Of l, 0, ?_, by simp, by simp, by simp, by simp, by simp, by simp, by simp [hp], by simp [hq], by simp [hz], by omega, by omega, by omega, hRR, hok, by simp [m0Of]⟩
    subst hF
    refine MS.mk' (upd_same _ _ _) ?_ (.inl ⟨rfl, rfl⟩) (.inl ⟨rfl, rfl⟩)
    simpa [RegIs, m0Of] using hR
  · clear hR hM hp hq hz hb1 hk1 hc1 ht1 S1 hRR hok
    rintro f S ⟨m, s, hMS, g12, g13, g11, g5, g7, g10, b5, b7, b10, s0, s1, hfs, hrun, hok, hnl⟩
    obtain ⟨f, rfl⟩ : ∃ f', f = f' + 1 := ⟨f - 1, by omega⟩
    obtain ⟨r, sk, nt, hb, hr, hs, hn⟩ := hMS
    by_cases hpc : 0 ≤ m.pc ∧ m.pc < x.code.length
    · by_cases hsf : s < p.fuel
      · have hat : m.pc.toNat < x.code.length := by omega
        have hget : x.code[m.pc.toNat]? = some x.code[m.pc.toNat] := List.getElem?_eq_getElem hat
        have hpf : F.p.fuel = p.fuel := by rw [← hF]; rfl
        obtain ⟨hdo, hnx⟩ := hok hpc (by rw [hpf]; exact hsf) _ hget
        have ws : IntKind.i64.wrap (s + 1) = s + 1 := wrap_in _ (by omega) (by omega)
        have hstep : runG F x.code (f + 1) m s = if (doV F x.code[m.pc.toNat] m).2 ≠ 0 then (none, (doV F x.code[m.pc.toNat] m).2, s + 1) else runG F x.code f (doV F x.code[m.pc.toNat] m).1 (s + 1) := by
          rw [runG, if_pos hpc, if_pos (by rw [hpf]; exact hsf), hget]
        rw [hstep] at hrun
        simp [mgo_l0, g12, g13, g11, g5, b5, hb, hpc, hsf, ws, hat]
        refine do_v F 15 m x.code[m.pc.toNat] hdo (.inl (by rw [← hF]; rfl)) (MS.to ⟨r, sk, nt, hb, hr, hs, hn⟩) ?_
        rintro S1 ⟨ht1, hb1, hk1, hc1⟩ hM1
        have c5 : S1.blk 84005 = some ⟨0, 4, [p.av]⟩ := by rw [hb1 84005 rfl]; simpa using b5
        have c7 : S1.blk 84007 = some ⟨1, 5, [l.av]⟩ := by rw [hb1 84007 rfl]; simpa using b7
        have c10 : S1.blk 84010 = some ⟨2, 7, [.agg [.nils, .bool false, iv 0, iv 0, iv 0, .nils, iv 0]]⟩ := by rw [hb1 84010 rfl]; simpa using b10
        by_cases hd : (doV F x.code[m.pc.toNat] m).2 = 0
        · rw [if_neg (by rw [hd]; simp)] at hrun
          simp [ht1, hd, g12, g11, g5, g7, g10]
          exact ⟨f, by omega, _, s + 1, hM1.to, by simp [g12], by simp, by simp [g11], by simp [g5], by simp [g7], by simp [g10], c5, c7, c10, by omega, by omega, by omega, hrun, hnx hd, by have := doV_notes F x.code[m.pc.toNat] m; omega⟩
        · rw [if_pos hd] at hrun
          simp [ht1, hd, g12, g11, g5, g7, g10, c7]
          refine call (cloneInts_pc l.regs hl) (by simp) ?_
          simp [ht1, g7, g10, c7, c10, Lcl.av]
          rw [← hrun]
          simp [goR, Res.av]
      · have hrn : runG F x.code (f + 1) m s = (none, 2, s) := by
          have hpf : F.p.fuel = p.fuel := by rw [← hF]; rfl
          rw [runG, if_pos hpc, if_neg (by rw [hpf]; exact hsf)]
        rw [hrn] at hrun
        simp [mgo_l0, g12, g13, g11, g5, g7, b5, b7, hb, hpc, hsf, Lcl.av]
        refine call (cloneInts_pc l.regs hl) (by simp) ?_
        simp [g7, g10, g13, b7, b10, Lcl.av]
        rw [← hrun]
        simp [goR, Res.av]
    · have hrn : runG F x.code (f + 1) m s = (some m, 0, s) := by rw [runG, if_neg hpc]
      rw [hrn] at hrun
      have hli : ∀ st blk, blk 1000163000 = some ⟨st, 1, m.regs.map iv⟩ → listOf blk 1 (.sl 1000163000 st 1 0 m.regs.length) = some (m.regs.map iv) := fun st blk hb => list_ints m.regs blk 1000163000 st hb
      have f1 : F.d = l.down := by rw [← hF]; rfl
      have f2 : F.s = l.sent := by rw [← hF]; rfl
      have f3 : F.o = l.over := by rw [← hF]; rfl
      by_cases h1 : 0 ≤ m.pc
      · rcases hr with ⟨rfl, e⟩ | ⟨sr, rfl, hr⟩ <;> rcases hn with ⟨rfl, e'⟩ | ⟨sn, rfl, hn⟩
        · simp [mgo_l0, g12, g11, g10, g13, b10, hb, h1, show ¬ m.pc < x.code.length by omega]
          rw [← hrun]
          simp [goR, Res.av, f1, f2, f3, e, (by simpa using e' : m.notes = [])]
        · simp [mgo_l0, g12, g11, g10, g13, b10, hb, h1, show ¬ m.pc < x.code.length by omega]
          rw [← hrun]
          simp [goR, Res.av, f1, f2, f3, e]
        · simp [mgo_l0, g12, g11, g10, g13, b10, hb, h1, show ¬ m.pc < x.code.length by omega, hr]
          rw [← hrun]
          simp [goR, Res.av, f1, f2, f3, hli, hr, (by simpa using e' : m.notes = [])]
        · simp [mgo_l0, g12, g11, g10, g13, b10, hb, h1, show ¬ m.pc < x.code.length by omega, hr]
          rw [← hrun]
          simp [goR, Res.av, f1, f2, f3, hli, hr]
      · rcases hr with ⟨rfl, e⟩ | ⟨sr, rfl, hr⟩ <;> rcases hn with ⟨rfl, e'⟩ | ⟨sn, rfl, hn⟩
        · simp [mgo_l0, g12, g11, g10, g13, b10, hb, h1]
          rw [← hrun]
          simp [goR, Res.av, f1, f2, f3, e, (by simpa using e' : m.notes = [])]
        · simp [mgo_l0, g12, g11, g10, g13, b10, hb, h1]
          rw [← hrun]
          simp [goR, Res.av, f1, f2, f3, e]
        · simp [mgo_l0, g12, g11, g10, g13, b10, hb, h1, hr]
          rw [← hrun]
          simp [goR, Res.av, f1, f2, f3, hli, hr, (by simpa using e' : m.notes = [])]
        · simp [mgo_l0, g12, g11, g10, g13, b10, hb, h1, hr]
          rw [← hrun]
          simp [goR, Res.av, f1, f2, f3, hli, hr]

end Go.Gv

/- The law FlowTells answers true, for all programs. No condition. -/
set_option linter.unusedVariables false
set_option linter.unusedSimpArgs false
namespace Go.Gv
open Go.Proofs

def handler4_r0 : List AI := [⟨(some 2), none, (.op (.new 40002 4 (.agg [.nils, .nils, .nils, (.int .i64 0)])))⟩]
def handler4_r1 : List AI := [⟨(some 3), none, (.op (.mv (.t 0)))⟩, ⟨(some 4), none, (.op (.build [(.int .i64 0), .nils] [(1, (1, (.t 3)))]))⟩, ⟨(some 5), none, (.op (.bsl 40005 2 33 1 (.agg [(.int .i64 0), .nils]) [(0, (.t 4))]))⟩, ⟨(some 6), none, (.op (.bsl 40006 1 3 1 (.int .i64 0) [(0, (.c (.int .i64 0)))]))⟩, ⟨(some 7), none, (.op (.build [.nils, (.int .i64 0), (.int .i64 0), (.bool false)] [(0, (1, (.t 6))), (2, (1, (.c (.int .i64 (-1)))))]))⟩, ⟨(some 8), none, (.op (.bsl 40008 4 38 1 (.agg [.nils, (.int .i64 0), (.int .i64 0), (.bool false)]) [(0, (.t 7))]))⟩, ⟨(some 9), none, (.op (.build [.nils, .nils, .nils, (.int .i64 0)] [(0, (1, (.t 5))), (1, (1, (.t 8))), (3, (1, (.c (.int .i64 100))))]))⟩, ⟨none, none, (.op (.store 4 (.t 2) (.t 9)))⟩]
def handler4_c : AC := (.seq (.reg handler4_r0) (.seq (.reg handler4_r1) .ret))
def handler4_res : List ARes := [(.cell (some 4) 2)]
set_option maxRecDepth 100000 in
theorem handler4_get : getF Try.prog 40 40000 [] = some ("gavotte/gavottelaw4.handler", 10, handler4_c, handler4_res) := by kernel_rfl
def awake4_r0 : List AI := [⟨(some 0), none, (.op (.mv (.c (.bool false))))⟩]
def awake4_r1 : List AI := [⟨(some 8), none, (.op (.build [(.int .i64 0), (.int .i64 0)] [(0, (1, (.c (.int .i64 1)))), (1, (1, (.c (.int .i64 1))))]))⟩, ⟨(some 9), none, (.op (.build [(.int .i64 0), (.int .i64 0)] [(0, (1, (.c (.int .i64 21)))), (1, (1, (.c (.int .i64 4))))]))⟩, ⟨(some 10), none, (.op (.build [(.int .i64 0), (.int .i64 0)] [(0, (1, (.c (.int .i64 1)))), (1, (1, (.c (.int .i64 2))))]))⟩, ⟨(some 11), none, (.op (.build [(.int .i64 0), (.int .i64 0)] [(0, (1, (.c (.int .i64 20)))), (1, (1, (.c (.int .i64 5))))]))⟩, ⟨(some 12), none, (.op (.build [(.int .i64 0), (.int .i64 0)] [(0, (1, (.c (.int .i64 1)))), (1, (1, (.c (.int .i64 3))))]))⟩, ⟨(some 13), none, (.op (.build [(.int .i64 0), (.int .i64 0)] [(0, (1, (.c (.int .i64 2))))]))⟩, ⟨(some 14), none, (.op (.bsl 32014 2 35 6 (.agg [(.int .i64 0), (.int .i64 0)]) [(0, (.t 8)), (1, (.t 9)), (2, (.t 10)), (3, (.t 11)), (4, (.t 12)), (5, (.t 13))]))⟩, ⟨(some 15), none, (.call (.c (.fn 40 [])) [(.t 14)])⟩, ⟨(some 1), none, (.op (.new 32001 4 (.agg [.nils, .nils, .nils, (.int .i64 0)])))⟩, ⟨none, none, (.op (.store 4 (.t 1) (.t 15)))⟩]
def awake4_r2 : List AI := [⟨(some 17), none, (.op (.load (some 4) (.t 1)))⟩, ⟨(some 18), none, (.call (.c (.fn 33 [])) [(.t 17), (.c (.int .i64 0))])⟩, ⟨(some 16), none, (.op (.mv (.t 18)))⟩, ⟨(some 19), none, (.op (.ext (.t 16) 0))⟩, ⟨(some 20), none, (.op (.ext (.t 16) 1))⟩, ⟨(some 2), none, (.op (.mv (.t 19)))⟩, ⟨(some 3), none, (.op (.mv (.t 20)))⟩]
def awake4_r3 : List AI := [⟨(some 22), none, (.op (.build [(.int .i64 0), (.int .i64 0)] [(0, (1, (.c (.int .i64 2))))]))⟩, ⟨(some 23), none, (.op (.bsl 32023 2 35 1 (.agg [(.int .i64 0), (.int .i64 0)]) [(0, (.t 22))]))⟩, ⟨(some 24), none, (.call (.c (.fn 40 [])) [(.t 23)])⟩, ⟨(some 25), none, (.call (.c (.fn 33 [])) [(.t 24), (.c (.int .i64 0))])⟩, ⟨(some 21), none, (.op (.mv (.t 25)))⟩, ⟨(some 26), none, (.op (.ext (.t 21) 0))⟩, ⟨(some 27), none, (.op (.ext (.t 21) 1))⟩, ⟨(some 4), none, (.op (.mv (.t 26)))⟩, ⟨(some 5), none, (.op (.mv (.t 27)))⟩]
def awake4_r4 : List AI := [⟨(some 29), none, (.op (.load (some 4) (.t 1)))⟩, ⟨(some 30), none, (.call (.c (.fn 33 [])) [(.t 29), (.c (.int .i64 1))])⟩, ⟨(some 28), none, (.op (.mv (.t 30)))⟩, ⟨(some 31), none, (.op (.ext (.t 28) 0))⟩, ⟨(some 32), none, (.op (.ext (.t 28) 1))⟩, ⟨(some 6), none, (.op (.mv (.t 31)))⟩, ⟨(some 7), none, (.op (.mv (.t 32)))⟩]
def awake4_r5 : List AI := [⟨(some 33), none, (.op (.mv (.t 3)))⟩, ⟨(some 34), none, (.op (.ibin .eql (.t 33) (.c (.int .i64 0))))⟩, ⟨(some 35), none, (.op (.mv (.t 34)))⟩, ⟨(some 36), (some (35, true)), (.op (.mv (.t 2)))⟩, ⟨(some 37), (some (35, true)), (.op (.bsl 32037 1 3 7 (.int .i64 0) [(0, (.c (.int .i64 0))), (1, (.c (.int .i64 1))), (2, (.c (.int .i64 0))), (3, (.c (.int .i64 1))), (4, (.c (.int .i64 0))), (5, (.c (.int .i64 1))), (6, (.c (.int .i64 0)))]))⟩, ⟨(some 38), (some (35, true)), (.call (.c (.fn 39 [])) [(.t 36), (.t 37)])⟩, ⟨(some 39), none, (.op (.pick (.t 35) (.t 38) (.c (.bool false))))⟩, ⟨(some 40), none, (.op (.mv (.t 39)))⟩, ⟨(some 41), (some (40, true)), (.op (.mv (.t 5)))⟩, ⟨(some 42), (some (40, true)), (.op (.ibin .eql (.t 41) (.c (.int .i64 5))))⟩, ⟨(some 43), none, (.op (.pick (.t 40) (.t 42) (.c (.bool false))))⟩, ⟨(some 44), none, (.op (.mv (.t 43)))⟩, ⟨(some 45), (some (44, true)), (.op (.mv (.t 7)))⟩, ⟨(some 46), (some (44, true)), (.op (.ibin .eql (.t 45) (.c (.int .i64 7))))⟩, ⟨(some 47), none, (.op (.pick (.t 44) (.t 46) (.c (.bool false))))⟩, ⟨(some 48), none, (.op (.mv (.t 47)))⟩, ⟨(some 49), (some (48, true)), (.op (.load (some 4) (.t 1)))⟩, ⟨(some 50), (some (48, true)), (.call (.c (.fn 36 [])) [(.t 49)])⟩, ⟨(some 51), (some (48, true)), (.op (.ibin .eql (.t 50) (.c (.int .i64 0))))⟩, ⟨(some 52), none, (.op (.pick (.t 48) (.t 51) (.c (.bool false))))⟩, ⟨(some 53), none, (.op (.mv (.t 52)))⟩, ⟨(some 54), (some (53, true)), (.op (.load (some 4) (.t 1)))⟩, ⟨(some 55), (some (53, true)), (.call (.c (.fn 34 [])) [(.t 54), (.c (.int .i64 0))])⟩, ⟨(some 56), (some (53, true)), (.op (.ibin .eql (.t 55) (.c (.int .i64 1))))⟩, ⟨(some 57), none, (.op (.pick (.t 53) (.t 56) (.c (.bool false))))⟩, ⟨(some 58), none, (.op (.mv (.t 57)))⟩, ⟨(some 59), (some (58, true)), (.op (.load (some 4) (.t 1)))⟩, ⟨(some 60), (some (58, true)), (.call (.c (.fn 34 [])) [(.t 59), (.c (.int .i64 1))])⟩, ⟨(some 61), (some (58, true)), (.op (.ibin .eql (.t 60) (.c (.int .i64 (-1)))))⟩, ⟨(some 62), none, (.op (.pick (.t 58) (.t 61) (.c (.bool false))))⟩, ⟨(some 0), none, (.op (.mv (.t 62)))⟩]
def awake4_c : AC := (.seq (.reg awake4_r0) (.seq (.reg awake4_r1) (.seq (.reg awake4_r2) (.seq (.reg awake4_r3) (.seq (.reg awake4_r4) (.seq (.reg awake4_r5) .ret))))))
def awake4_res : List ARes := [(.tmp 0)]
set_option maxRecDepth 100000 in
theorem awake4_get : getF Try.prog 32 32000 [] = some ("gavotte/gavottelaw4.awake", 63, awake4_c, awake4_res) := by kernel_rfl
def ftells_r0 : List AI := [⟨(some 2), none, (.op (.box 7002 4 (.t 0)))⟩, ⟨(some 4), none, (.op (.mv (.c (.bool false))))⟩]
def ftells_r1 : List AI := [⟨(some 12), none, (.op (.load (some 4) (.t 2)))⟩, ⟨(some 13), none, (.call (.c (.fn 24 [])) [(.t 12)])⟩, ⟨(some 14), none, (.op (.not (.t 13)))⟩]
def ftells_r2 : List AI := [⟨(some 15), none, (.call (.c (.fn 32 [])) [])⟩, ⟨(some 4), none, (.op (.mv (.t 15)))⟩]
def ftells_r3 : List AI := [⟨(some 17), none, (.op (.load (some 4) (.t 2)))⟩, ⟨(some 18), none, (.op (.mv (.t 1)))⟩, ⟨(some 19), none, (.call (.c (.fn 33 [])) [(.t 17), (.t 18)])⟩, ⟨(some 16), none, (.op (.mv (.t 19)))⟩, ⟨(some 20), none, (.op (.ext (.t 16) 0))⟩, ⟨(some 21), none, (.op (.ext (.t 16) 1))⟩, ⟨(some 5), none, (.op (.mv (.t 20)))⟩, ⟨(some 6), none, (.op (.mv (.t 21)))⟩]
def ftells_r4 : List AI := [⟨(some 22), none, (.op (.load (some 4) (.t 2)))⟩, ⟨(some 23), none, (.op (.mv (.t 1)))⟩, ⟨(some 24), none, (.call (.c (.fn 34 [])) [(.t 22), (.t 23)])⟩, ⟨(some 7), none, (.op (.mv (.t 24)))⟩]
def ftells_r5 : List AI := [⟨(some 25), none, (.op (.load (some 4) (.t 2)))⟩, ⟨(some 26), none, (.call (.c (.fn 35 [])) [(.t 25)])⟩, ⟨(some 8), none, (.op (.mv (.t 26)))⟩]
def ftells_r6 : List AI := [⟨(some 27), none, (.op (.load (some 4) (.t 2)))⟩, ⟨(some 28), none, (.call (.c (.fn 36 [])) [(.t 27)])⟩, ⟨(some 29), none, (.op (.load (some 4) (.t 2)))⟩, ⟨(some 30), none, (.call (.c (.fn 37 [])) [(.t 29)])⟩, ⟨(some 31), none, (.op (.ibin .neq (.t 28) (.t 30)))⟩]
def ftells_p6 : List (List Nat) := [[], [0], [], [2, 1, 0], [1, 3, 0, 2]]
def ftells_r7 : List AI := [⟨(some 4), none, (.op (.mv (.c (.bool false))))⟩]
def ftells_r8 : List AI := [⟨(some 32), none, (.op (.mv (.t 8)))⟩, ⟨(some 33), none, (.op (.ibin .neq (.t 32) (.c (.int .i64 0))))⟩]
def ftells_r9 : List AI := [⟨(some 34), none, (.op (.mv (.t 6)))⟩, ⟨(some 35), none, (.op (.mv (.t 8)))⟩, ⟨(some 36), none, (.op (.ibin .eql (.t 34) (.t 35)))⟩, ⟨(some 37), none, (.op (.mv (.t 36)))⟩, ⟨(some 38), (some (37, true)), (.op (.mv (.t 5)))⟩, ⟨(some 39), (some (37, true)), (.op (.len (.t 38)))⟩, ⟨(some 40), (some (37, true)), (.op (.ibin .eql (.t 39) (.c (.int .i64 0))))⟩, ⟨(some 41), none, (.op (.pick (.t 37) (.t 40) (.c (.bool false))))⟩, ⟨(some 42), none, (.op (.mv (.t 41)))⟩, ⟨(some 43), (some (42, true)), (.op (.mv (.t 7)))⟩, ⟨(some 44), (some (42, true)), (.op (.ibin .eql (.t 43) (.c (.int .i64 (-1)))))⟩, ⟨(some 45), none, (.op (.pick (.t 42) (.t 44) (.c (.bool false))))⟩, ⟨(some 46), none, (.op (.mv (.t 45)))⟩, ⟨(some 47), (some (46, true)), (.call (.c (.fn 32 [])) [])⟩, ⟨(some 48), none, (.op (.pick (.t 46) (.t 47) (.c (.bool false))))⟩, ⟨(some 4), none, (.op (.mv (.t 48)))⟩]
def ftells_r10 : List AI := [⟨(some 50), none, (.op (.load (some 4) (.t 2)))⟩, ⟨(some 51), none, (.op (.mv (.t 1)))⟩, ⟨(some 52), none, (.call (.c (.fn 38 [])) [(.t 50), (.t 51)])⟩, ⟨(some 49), none, (.op (.mv (.t 52)))⟩, ⟨(some 53), none, (.op (.ext (.t 49) 0))⟩, ⟨(some 54), none, (.op (.ext (.t 49) 1))⟩, ⟨(some 55), none, (.op (.ext (.t 49) 2))⟩, ⟨(some 9), none, (.op (.mv (.t 53)))⟩, ⟨(some 10), none, (.op (.mv (.t 54)))⟩, ⟨(some 11), none, (.op (.mv (.t 55)))⟩]
def ftells_r11 : List AI := [⟨(some 56), none, (.op (.mv (.t 5)))⟩, ⟨(some 57), none, (.op (.mv (.t 9)))⟩, ⟨(some 58), none, (.call (.c (.fn 39 [])) [(.t 56), (.t 57)])⟩, ⟨(some 59), none, (.op (.mv (.t 58)))⟩, ⟨(some 60), (some (59, true)), (.op (.mv (.t 6)))⟩, ⟨(some 61), (some (59, true)), (.op (.mv (.t 11)))⟩, ⟨(some 62), (some (59, true)), (.op (.ibin .eql (.t 60) (.t 61)))⟩, ⟨(some 63), none, (.op (.pick (.t 59) (.t 62) (.c (.bool false))))⟩, ⟨(some 64), none, (.op (.mv (.t 63)))⟩, ⟨(some 65), (some (64, true)), (.op (.mv (.t 7)))⟩, ⟨(some 66), (some (64, true)), (.op (.mv (.t 10)))⟩, ⟨(some 67), (some (64, true)), (.op (.ibin .eql (.t 65) (.t 66)))⟩, ⟨(some 68), none, (.op (.pick (.t 64) (.t 67) (.c (.bool false))))⟩, ⟨(some 69), none, (.op (.mv (.t 68)))⟩, ⟨(some 70), (some (69, true)), (.call (.c (.fn 32 [])) [])⟩, ⟨(some 71), none, (.op (.pick (.t 69) (.t 70) (.c (.bool false))))⟩, ⟨(some 4), none, (.op (.mv (.t 71)))⟩]
def ftells_c : AC := (.seq (.reg ftells_r0) (.seq (.seq (.reg ftells_r1) (.cond (.t 14) (.seq (.reg ftells_r2) .ret) .skip)) (.seq (.reg ftells_r3) (.seq (.reg ftells_r4) (.seq (.reg ftells_r5) (.seq (.seq (.regd ftells_r6 ftells_p6) (.cond (.t 31) (.seq (.reg ftells_r7) .ret) .skip)) (.seq (.seq (.reg ftells_r8) (.cond (.t 33) (.seq (.reg ftells_r9) .ret) .skip)) (.seq (.reg ftells_r10) (.seq (.reg ftells_r11) .ret)))))))))
def ftells_res : List ARes := [(.tmp 4)]
set_option maxRecDepth 100000 in
theorem ftells_get : getF Try.prog 7 7000 [] = some ("gavotte/gavottelaw4.FlowTells", 72, ftells_c, ftells_res) := by kernel_rfl
attribute [simp] handler4_r0 handler4_r1 handler4_res awake4_r0 awake4_r1 awake4_r2 awake4_r3 awake4_r4 awake4_r5 awake4_res ftells_r0 ftells_r1 ftells_r2 ftells_r3 ftells_r4 ftells_r5 ftells_r6 ftells_p6 ftells_r7 ftells_r8 ftells_r9 ftells_r10 ftells_r11 ftells_res

def hdlP (code : List Ins) : Prg := ⟨[⟨0, code⟩], [⟨[0], 0, -1, false⟩], [], 100⟩
theorem handler4_pc (code : List Ins) : PC Try.prog 40 [.lst 2 (code.map Ins.av)] (hdlP code).av := by
  refine pc_of_get handler4_get (by simp) _ (by simp) _ ?_
  unfold handler4_c
  simp [hdlP]
def awk4 : List Ins := [⟨1, 1⟩, ⟨21, 4⟩, ⟨1, 2⟩, ⟨20, 5⟩, ⟨1, 3⟩, ⟨2, 0⟩]
theorem awake4_pc : PC Try.prog 32 [] (.bool true) := by
  refine pc_of_get awake4_get (by simp) _ (by simp) _ ?_
  unfold awake4_c
  simp
  refine call (handler4_pc awk4) (by simp [awk4]) ?_
  simp
  refine call (depths_pc (hdlP awk4) 0) (by simp) ?_
  rw [show depthsV (hdlP awk4) 0 = ([0, 1, 0, 1, 0, 1, 0], 0) by decide]
  simp
  refine call (handler4_pc [⟨2, 0⟩]) (by simp) ?_
  simp
  refine call (depths_pc (hdlP [⟨2, 0⟩]) 0) (by simp) ?_
  rw [show depthsV (hdlP [⟨2, 0⟩]) 0 = ([], 5) by decide]
  simp
  refine call (depths_pc (hdlP awk4) 1) (by simp) ?_
  rw [show depthsV (hdlP awk4) 1 = ([], 7) by decide]
  simp
  refine call (aints_pc [0, 1, 0, 1, 0, 1, 0] [0, 1, 0, 1, 0, 1, 0] (by simp)) (by simp) ?_
  simp
  refine call (fcheck_pc (hdlP awk4)) (by simp) ?_
  rw [show flowV (hdlP awk4) = 0 by decide]
  simp
  refine call (most_pc (hdlP awk4) 0) (by simp) ?_
  rw [show mostV (hdlP awk4) 0 = 1 by decide]
  simp
  refine call (most_pc (hdlP awk4) 1) (by simp) ?_
  rw [show mostV (hdlP awk4) 1 = -1 by decide]
  simp
theorem rdep_err {p : Prg} (hc : checkV p = 0) {i : Nat} (hi : i < p.hs.length) : (rdepV p i).2.2 = walkE p.hs p.hs[i] := by
  have e : p.hs[((i : Int)).toNat]? = some p.hs[i] := by simp [hi]
  unfold rdepV walkE
  rw [if_neg (by omega), e]
  simp only
  rw [walk_eq (codeOk_of hc (List.getElem_mem hi))]
  cases walkV p.hs p.hs[i].code <;> rfl
theorem rflow_eq (p : Prg) : rflowV p = flowV p := by
  unfold rflowV flowV
  by_cases hc : checkV p = 0
  · rw [hc, if_neg (by simp)]
    have key : ∀ (k i : Nat), i + k = p.hs.length → rflowGo p ((List.range' i k).map fun n : Nat => (n : Int)) 0 = firstNZ ((p.hs.drop i).map (walkE p.hs)) := by
      intro k
      induction k with
      | zero => intro i hi; rw [List.drop_of_length_le (by omega)]; rfl
      | succ k ih =>
        intro i hi
        have hlt : i < p.hs.length := by omega
        rw [List.range'_succ, List.map_cons, rflowGo, if_pos rfl, rdep_err hc hlt, List.drop_eq_getElem_cons hlt, List.map_cons, firstNZ]
        by_cases hw : walkE p.hs p.hs[i] = 0
        · rw [hw, if_neg (by simp), ih (i + 1) (by omega)]
        · rw [if_pos hw]
          cases k with
          | zero => rfl
          | succ k => rw [List.range'_succ, List.map_cons, rflowGo, if_neg hw]
    have := key p.hs.length 0 (by omega)
    rw [List.range_eq_range']
    simpa using this
  · rw [if_pos hc]
    cases hl : p.hs.length with
    | zero => simp [rflowGo]
    | succ n => rw [List.range_succ_eq_map, List.map_cons, rflowGo, if_neg hc]
theorem tells_eq {p : Prg} (hc : checkV p = 0) (h : Int) : depthsV p h = ((rdepV p h).1, (rdepV p h).2.2) ∧ mostV p h = (rdepV p h).2.1 := by
  by_cases hr : h < 0 ∨ h ≥ p.hs.length
  · have e1 : depthsV p h = ([], 7) := by unfold depthsV; rw [if_neg (by simpa using hc), if_pos hr]
    have e2 : rdepV p h = ([], -1, 7) := by unfold rdepV; rw [if_pos hr]
    refine ⟨by rw [e1, e2], ?_⟩
    unfold mostV
    rw [e1, e2, if_pos (by simp)]
  · cases hx : p.hs[h.toNat]? with
    | none => rw [List.getElem?_eq_none_iff] at hx; omega
    | some x =>
      have hw := walk_eq (codeOk_of hc (List.mem_of_getElem? hx))
      cases hv : walkV p.hs x.code with
      | none =>
        have e1 : depthsV p h = ([], 5) := by unfold depthsV; rw [if_neg (by simpa using hc), if_neg hr, hx]; simp only [hv]
        have e2 : rdepV p h = ([], -1, 5) := by unfold rdepV; rw [if_neg hr, hx]; simp only [hw, hv]
        refine ⟨by rw [e1, e2], ?_⟩
        unfold mostV
        rw [e1, e2, if_pos (by simp)]
      | some r =>
        have e1 : depthsV p h = (r.1, 0) := by unfold depthsV; rw [if_neg (by simpa using hc), if_neg hr, hx]; simp only [hv]
        have e2 : rdepV p h = (r.1, r.2, 0) := by unfold rdepV; rw [if_neg hr, hx]; simp only [hw, hv]
        refine ⟨by rw [e1, e2], ?_⟩
        unfold mostV
        rw [e1, e2, if_neg (by simp), hx]
        simp only [hv]
theorem depthsV_len (p : Prg) (h : Int) : (depthsV p h).1.length < 4611686018427387904 := by
  unfold depthsV
  split
  · simp
  · rename_i h1
    split
    · simp
    · split
      · rename_i x hx
        have hok := codeOk_of (by simpa using h1) (List.mem_of_getElem? hx)
        rcases walk_good hok with ⟨o, m, e, g⟩ | ⟨e, _⟩
        · rw [e]; simp only [g.len]; have := hok.1; omega
        · rw [e]; simp
      · simp
theorem flowTells_pc (p : Prg) (h : Int) : PC Try.prog 7 [p.av, iv h] (.bool true) := by
  refine pc_of_get ftells_get (by simp) _ (by simp) _ ?_
  unfold ftells_c
  simp
  refine call (small_pc p) (by simp) ?_
  simp
  by_cases h1 : smallV p
  rotate_left
  · simp [h1]
    refine call awake4_pc (by simp) ?_
    simp
  simp [h1]
  refine call (depths_pc p h) (by simp) ?_
  simp
  refine call (most_pc p h) (by simp) ?_
  simp
  refine call (rcheck_pc p) (by simp) ?_
  simp
  refine calld (fcheck_pc p) (by simp) ?_
  simp
  refine calld (rcflow_pc p (by have := h1.1; omega)) (by simp) ?_
  simp [rflow_eq]
  refine split (fun h2 => ?_) (fun h2 => ?_) <;> simp [h2]
  · have hc := h2
    obtain ⟨e1, e2⟩ := tells_eq hc h
    refine call (rdep_pc p h (fun x hx => codeOk_of hc hx)) (by simp) ?_
    have hl := depthsV_len p h
    rw [e1, e2]
    rw [e1] at hl
    simp
    refine call (aints_pc (rdepV p h).1 (rdepV p h).1 hl) (by simp) ?_
    simp
    refine call awake4_pc (by simp) ?_
    simp
  · have e1 : depthsV p h = ([], checkV p) := by unfold depthsV; rw [if_pos h2]
    have e2 : mostV p h = -1 := by unfold mostV; rw [e1, if_pos h2]
    rw [e1, e2]
    simp
    refine call awake4_pc (by simp) ?_
    simp

end Go.Gv

/- What vm.May and vm.Run answer. -/
set_option linter.unusedVariables false
set_option linter.unusedSimpArgs false
namespace Go.Gv
open Go.Proofs

def may_r0 : List AI := [⟨(some 5), none, (.op (.box 42005 4 (.t 0)))⟩, ⟨(some 7), none, (.op (.box 42007 5 (.t 2)))⟩, ⟨(some 10), none, (.op (.mv (.c (.bool false))))⟩]
def may_r1 : List AI := [⟨(some 11), none, (.op (.load (some 4) (.t 5)))⟩, ⟨(some 12), none, (.call (.c (.fn 36 [])) [(.t 11)])⟩, ⟨(some 13), none, (.op (.ibin .eql (.t 12) (.c (.int .i64 0))))⟩, ⟨(some 14), none, (.op (.mv (.t 13)))⟩, ⟨(some 15), (some (14, true)), (.op (.mv (.t 1)))⟩, ⟨(some 16), (some (14, true)), (.op (.ibin .geq (.t 15) (.c (.int .i64 0))))⟩, ⟨(some 17), none, (.op (.pick (.t 14) (.t 16) (.c (.bool false))))⟩, ⟨(some 18), none, (.op (.mv (.t 17)))⟩, ⟨(some 19), (some (18, true)), (.op (.mv (.t 1)))⟩, ⟨(some 20), (some (18, true)), (.op (.fld 1 (.t 5)))⟩, ⟨(some 21), (some (18, true)), (.op (.load none (.t 20)))⟩, ⟨(some 22), (some (18, true)), (.op (.len (.t 21)))⟩, ⟨(some 23), (some (18, true)), (.op (.ibin .lss (.t 19) (.t 22)))⟩, ⟨(some 24), none, (.op (.pick (.t 18) (.t 23) (.c (.bool false))))⟩, ⟨(some 25), none, (.op (.mv (.t 24)))⟩, ⟨(some 26), (some (25, true)), (.op (.mv (.t 3)))⟩, ⟨(some 27), (some (25, true)), (.op (.ibin .geq (.t 26) (.c (.int .i64 0))))⟩, ⟨(some 28), none, (.op (.pick (.t 25) (.t 27) (.c (.bool false))))⟩, ⟨(some 29), none, (.op (.mv (.t 28)))⟩, ⟨(some 30), (some (29, true)), (.op (.mv (.t 3)))⟩, ⟨(some 31), (some (29, true)), (.op (.fld 0 (.t 5)))⟩, ⟨(some 32), (some (29, true)), (.op (.load none (.t 31)))⟩, ⟨(some 33), (some (29, true)), (.op (.len (.t 32)))⟩, ⟨(some 34), (some (29, true)), (.op (.ibin .lss (.t 30) (.t 33)))⟩, ⟨(some 35), none, (.op (.pick (.t 29) (.t 34) (.c (.bool false))))⟩, ⟨(some 36), none, (.op (.mv (.t 35)))⟩, ⟨(some 37), (some (36, true)), (.op (.mv (.t 4)))⟩, ⟨(some 38), (some (36, true)), (.op (.len (.t 37)))⟩, ⟨(some 39), (some (36, true)), (.op (.fld 0 (.t 5)))⟩, ⟨(some 40), (some (36, true)), (.op (.load none (.t 39)))⟩, ⟨(some 41), (some (36, true)), (.op (.mv (.t 3)))⟩, ⟨(some 42), (some (36, true)), (.op (.idx 2 (.t 40) (.t 41)))⟩, ⟨(some 43), (some (36, true)), (.op (.fld 0 (.t 42)))⟩, ⟨(some 44), (some (36, true)), (.op (.load none (.t 43)))⟩, ⟨(some 45), (some (36, true)), (.op (.ibin .eql (.t 38) (.t 44)))⟩, ⟨(some 46), none, (.op (.pick (.t 36) (.t 45) (.c (.bool false))))⟩, ⟨(some 47), none, (.op (.mv (.t 46)))⟩, ⟨(some 48), (some (47, true)), (.op (.fld 0 (.t 7)))⟩, ⟨(some 49), (some (47, true)), (.op (.load none (.t 48)))⟩, ⟨(some 50), (some (47, true)), (.op (.len (.t 49)))⟩, ⟨(some 51), (some (47, true)), (.op (.ibin .leq (.t 50) (.c (.int .i64 8))))⟩, ⟨(some 52), none, (.op (.pick (.t 47) (.t 51) (.c (.bool false))))⟩, ⟨(some 53), none, (.op (.mv (.t 52)))⟩, ⟨(some 54), (some (53, true)), (.op (.fld 2 (.t 7)))⟩, ⟨(some 55), (some (53, true)), (.op (.load none (.t 54)))⟩, ⟨(some 56), (some (53, true)), (.op (.ibin .eql (.t 55) (.c (.int .i64 0))))⟩, ⟨(some 57), none, (.op (.pick (.t 53) (.t 56) (.c (.bool false))))⟩, ⟨(some 10), none, (.op (.mv (.t 57)))⟩]
def may_c : AC := (.seq (.reg may_r0) (.seq (.reg may_r1) .ret))
def may_res : List ARes := [(.tmp 10)]
set_option maxRecDepth 100000 in
theorem may_get : getF Try.prog 42 42000 [] = some ("gavotte/vm.May", 58, may_c, may_res) := by kernel_rfl
def mrun_r0 : List AI := [⟨(some 5), none, (.op (.box 45005 4 (.t 0)))⟩, ⟨(some 7), none, (.op (.box 45007 5 (.t 2)))⟩, ⟨(some 10), none, (.op (.new 45010 7 (.agg [.nils, (.bool false), (.int .i64 0), (.int .i64 0), (.int .i64 0), .nils, (.int .i64 0)])))⟩]
def mrun_r1 : List AI := [⟨(some 11), none, (.op (.load (some 4) (.t 5)))⟩, ⟨(some 12), none, (.op (.mv (.t 1)))⟩, ⟨(some 13), none, (.op (.load (some 5) (.t 7)))⟩, ⟨(some 14), none, (.op (.mv (.t 3)))⟩, ⟨(some 15), none, (.op (.mv (.t 4)))⟩, ⟨(some 16), none, (.call (.c (.fn 42 [])) [(.t 11), (.t 12), (.t 13), (.t 14), (.t 15)])⟩, ⟨(some 17), none, (.op (.not (.t 16)))⟩]
def mrun_r2 : List AI := [⟨(some 18), none, (.op (.build [.nils, (.bool false), (.int .i64 0), (.int .i64 0), (.int .i64 0), .nils, (.int .i64 0)] []))⟩, ⟨none, none, (.op (.store 7 (.t 10) (.t 18)))⟩]
def mrun_r3 : List AI := [⟨(some 19), none, (.op (.load (some 4) (.t 5)))⟩, ⟨(some 20), none, (.op (.mv (.t 1)))⟩, ⟨(some 21), none, (.op (.load (some 5) (.t 7)))⟩, ⟨(some 22), none, (.op (.mv (.t 3)))⟩, ⟨(some 23), none, (.op (.mv (.t 4)))⟩, ⟨(some 24), none, (.call (.c (.fn 84 [])) [(.t 19), (.t 20), (.t 21), (.t 22), (.t 23)])⟩, ⟨none, none, (.op (.store 7 (.t 10) (.t 24)))⟩]
def mrun_c : AC := (.seq (.reg mrun_r0) (.seq (.seq (.reg mrun_r1) (.cond (.t 17) (.seq (.reg mrun_r2) .ret) .skip)) (.seq (.reg mrun_r3) .ret)))
def mrun_res : List ARes := [(.cell (some 7) 10)]
set_option maxRecDepth 100000 in
theorem mrun_get : getF Try.prog 45 45000 [] = some ("gavotte/vm.Run", 25, mrun_c, mrun_res) := by kernel_rfl
attribute [simp] may_r0 may_r1 may_res mrun_r0 mrun_r1 mrun_r2 mrun_r3 mrun_res

def mayV (p : Prg) (who : Int) (l : Lcl) (h : Int) (args : List Int) : Prop :=
  flowV p = 0 ∧ 0 ≤ who ∧ who < p.as.length ∧ 0 ≤ h ∧ h < p.hs.length ∧ (args.length : Int) = argsOf p.hs h ∧ l.regs.length ≤ 8 ∧ l.down = 0
instance (p : Prg) (who : Int) (l : Lcl) (h : Int) (args : List Int) : Decidable (mayV p who l h args) := by unfold mayV; exact inferInstance
theorem may_pc (p : Prg) (who : Int) (l : Lcl) (h : Int) (args : List Int) : PC Try.prog 42 [p.av, iv who, l.av, iv h, ints args] (.bool (decide (mayV p who l h args))) := by
  refine pc_of_get may_get (by simp) _ (by simp) _ ?_
  unfold may_c mayV
  simp
  refine call (fcheck_pc p) (by simp) ?_
  simp
  by_cases h1 : flowV p = 0
  rotate_left
  · simp [h1]
  by_cases h2 : 0 ≤ who
  rotate_left
  · simp [h1, h2]
  by_cases h3 : who < p.as.length
  rotate_left
  · simp [h1, h2, h3]
  by_cases h4 : 0 ≤ h
  rotate_left
  · simp [h1, h2, h3, h4]
  by_cases h5 : h < p.hs.length
  rotate_left
  · simp [h1, h2, h3, h4, h5]
  have hj : h.toNat < p.hs.length := by omega
  have ha : argsOf p.hs h = p.hs[h.toNat].args := by unfold argsOf; rw [List.getElem?_eq_getElem hj]; rfl
  skip
  by_cases h6 : (args.length : Int) = p.hs[h.toNat].args
  rotate_left
  · simp [ha, h1, h2, h3, h4, h5, h6, hj]
  by_cases h7 : (l.regs.length : Int) ≤ 8
  rotate_left
  · simp [ha, h1, h2, h3, h4, h5, h6, h7, hj, Lcl.av, show ¬ l.regs.length ≤ 8 by omega]
  simp [ha, h1, h2, h3, h4, h5, h6, h7, hj, Lcl.av, show l.regs.length ≤ 8 by omega]
def zeroRes : Res := ⟨⟨[], false, 0, 0, 0⟩, [], 0⟩
def runR (p : Prg) (who : Int) (l : Lcl) (h : Int) (args : List Int) : Res :=
  if mayV p who l h args then goR l (runG (fxOf p who l args) ((p.hs[h.toNat]?.map Hnd.code).getD []) (p.fuel.toNat + 1) (m0Of l) 0) else zeroRes
theorem mrun_pc (p : Prg) (who : Int) (l : Lcl) (h : Int) (args : List Int) (hok : mayV p who l h args → RunOk (fxOf p who l args) ((p.hs[h.toNat]?.map Hnd.code).getD []) (p.fuel.toNat + 1) (m0Of l) 0) (hf : mayV p who l h args → 0 ≤ p.fuel ∧ p.fuel ≤ 1000) :
    PC Try.prog 45 [p.av, iv who, l.av, iv h, ints args] (runR p who l h args).av := by
  refine pc_of_get mrun_get (by simp) _ (by simp) _ ?_
  unfold mrun_c
  simp
  refine call (may_pc p who l h args) (by simp [Lcl.av]) ?_
  by_cases hm : mayV p who l h args
  · have hm0 := hm
    obtain ⟨_, _, _, h4, h5, _, h7, _⟩ := hm0
    have hj : h.toNat < p.hs.length := by omega
    have hx : p.hs[h.toNat]? = some p.hs[h.toNat] := List.getElem?_eq_getElem hj
    simp [hm]
    have hok' := hok hm
    rw [hx] at hok'
    refine call (go_pc p who l h args _ h4 hx (hf hm) (by omega) hok') (by simp [Lcl.av]) ?_
    simp [runR, hm, hx, Res.av]
  · simp [hm, runR, zeroRes, Res.av]

end Go.Gv

/- All that a handler comes to on its way is in order where it may be run: the stack is as deep as the walk tells. -/
set_option linter.unusedVariables false
set_option linter.unusedSimpArgs false
namespace Go.Gv
open Go.Proofs

theorem len_of (l : List Int) (n : Int) (h : n ≤ l.length) (h0 : 1 ≤ n) : l ≠ [] := by
  intro e; rw [e] at h; simp at h; omega
theorem doV_depth (F : Fx) (i : Ins) (m : Mach) (o : 1 ≤ i.op ∧ i.op ≤ 25) (tk : takesV F.p.hs i ≤ m.st.length) (sn : i.op = 22 → 0 ≤ argsOf F.p.hs i.a) (hz : (doV F i m).2 = 0) :
    ((doV F i m).1.st.length : Int) = m.st.length - takesV F.p.hs i + putsV i.op := by
  have tk' : popsV i.op + (if i.op = 22 then argsOf F.p.hs i.a else 0) ≤ m.st.length := tk
  unfold takesV
  rcases lit25 o.1 o.2 with e | e | e | e | e | e | e | e | e | e | e | e | e | e | e | e | e | e | e | e | e | e | e | e | e
  case inr.inr.inr.inr.inr.inr.inr.inr.inr.inr.inr.inr.inr.inr.inr.inr.inr.inr.inr.inr.inr.inl =>
    have s0 := sn e
    have h1 : 1 ≤ m.st.length := by simp [e, popsV] at tk'; omega
    by_cases hc : top m.st < 0 ∨ top m.st ≥ F.p.as.length
    · simp [doV, e, hc] at hz
    · have hd : (doV F i m).1.st = m.st.take (m.st.length - 1 - argsN F i.a) := by simp [doV, e, hc]
      have hn : (argsN F i.a : Int) = argsOf F.p.hs i.a := by unfold argsN; omega
      rw [hd, e, if_pos rfl]
      simp [e, popsV] at tk'
      simp [popsV, putsV]
      omega
  all_goals
    simp [e, popsV] at tk'
    simp [doV, e, popsV, putsV, oneV] <;> omega
theorem doV_pc (F : Fx) (i : Ins) (m : Mach) (o : 1 ≤ i.op ∧ i.op ≤ 25) (p0 : 0 ≤ m.pc) (jp : i.op = 20 ∨ i.op = 21 → 0 ≤ i.a) : (doV F i m).1.pc = -1 ∨ 0 ≤ (doV F i m).1.pc ∧ (doV F i m).1.pc.toNat ∈ nextV m.pc.toNat i := by
  have e1 : (m.pc + 1).toNat = m.pc.toNat + 1 := by omega
  rcases lit25 o.1 o.2 with e | e | e | e | e | e | e | e | e | e | e | e | e | e | e | e | e | e | e | e | e | e | e | e | e
  case inr.inr.inr.inr.inr.inr.inr.inr.inr.inr.inr.inr.inr.inr.inr.inr.inr.inr.inr.inr.inr.inl =>
    have hd : (doV F i m).1.pc = m.pc + 1 := by
      by_cases hc : top m.st < 0 ∨ top m.st ≥ F.p.as.length <;> simp [doV, e, hc]
    rw [hd]
    exact .inr ⟨by omega, by simp [nextV, e, e1]⟩
  case inr.inr.inr.inr.inr.inr.inr.inr.inr.inr.inr.inr.inr.inr.inr.inr.inr.inr.inr.inr.inl =>
    have hj := jp (.inr e)
    by_cases hc : top m.st = 0
    · have hd : (doV F i m).1.pc = i.a := by simp [doV, e, hc]
      rw [hd]
      exact .inr ⟨hj, by simp [nextV, e]⟩
    · have hd : (doV F i m).1.pc = m.pc + 1 := by simp [doV, e, hc]
      rw [hd]
      exact .inr ⟨by omega, by simp [nextV, e, e1]⟩
  case inr.inr.inr.inr.inr.inr.inr.inr.inr.inr.inr.inr.inr.inr.inr.inr.inr.inr.inr.inl =>
    have hj := jp (.inl e)
    have hd : (doV F i m).1.pc = i.a := by simp [doV, e]
    rw [hd]
    exact .inr ⟨hj, by simp [nextV, e]⟩
  case inr.inr.inr.inr.inr.inr.inr.inr.inr.inr.inr.inr.inr.inr.inr.inr.inr.inr.inr.inr.inr.inr.inr.inr =>
    left; simp [doV, e]
  all_goals
    right
    simp [doV, e, nextV, oneV, e1] <;> omega
theorem ite_regs {c : Prop} [Decidable c] {a b : Mach × Int} {n : Nat} (h1 : a.1.regs.length = n) (h2 : b.1.regs.length = n) : (if c then a else b).1.regs.length = n := by
  by_cases h : c
  · rw [if_pos h]; exact h1
  · rw [if_neg h]; exact h2
theorem doV_regs (F : Fx) (i : Ins) (m : Mach) : (doV F i m).1.regs.length = m.regs.length := by
  unfold doV
  repeat' apply ite_regs
  all_goals first
    | rfl
    | (by_cases h : i.a < m.regs.length <;> simp [h])
structure MI (F : Fx) (code : List Ins) (m : Mach) (s : Int) : Prop where
  pc : m.pc ≤ code.length
  st : 0 ≤ m.pc → Rch F.p.hs code m.pc.toNat m.st.length
  rl : m.regs.length ≤ 8
  nl : (m.notes.length : Int) ≤ s
  s0 : 0 ≤ s
theorem Rch.le {hs : List Hnd} {code : List Ins} {a : Nat} {d : Int} (h : Rch hs code a d) : d ≤ 8 := by
  cases h <;> omega
/-- What is fixed and needed. -/
structure RFix (F : Fx) (code : List Ins) : Prop where
  ok : codeOk F.p.hs code
  good : ∃ o m, Good F.p.hs code o m
  ins : ∃ (n k : Int), ∀ i ∈ code, instrV n F.args.length k i = 0
  who : 0 ≤ F.who ∧ F.who.toNat < F.p.as.length
  fuel : F.p.fuel ≤ 256
theorem RFix.doOk {F : Fx} {code : List Ins} (h : RFix F code) {m : Mach} {s : Int} (hm : MI F code m s) (hp : 0 ≤ m.pc ∧ m.pc < code.length) (hs : s < F.p.fuel) {i : Ins} (hi : code[m.pc.toNat]? = some i) : DoOk F i m := by
  obtain ⟨o, mo, hg⟩ := h.good
  obtain ⟨n, k, hins⟩ := h.ins
  have hr := hm.st hp.1
  obtain ⟨g1, g2⟩ := hg.rch hr
  have hcl := hg.closed _ _ _ g1 (by omega) hi
  have him := List.mem_of_getElem? hi
  obtain ⟨q1, q2, q3, q4, q5, q6⟩ := instrV_zero (hins i him)
  have hio := (h.ok.2 i him).1
  have hle := hr.le
  have hc9 := h.ok.1
  have h1 := hm.rl
  have h2 := hm.nl
  have h3 := h.fuel
  exact ⟨⟨q1, q2⟩, hcl.1, fun e => (q4 e).1, fun e => by have := q5 e; omega, fun e => ⟨(hio e).1, (hio e).2.1, (hio e).2.2.1⟩, h.who, by omega, by omega, by omega, by omega⟩
theorem RFix.next {F : Fx} {code : List Ins} (h : RFix F code) {m : Mach} {s : Int} (hm : MI F code m s) (hp : 0 ≤ m.pc ∧ m.pc < code.length) (hs : s < F.p.fuel) {i : Ins} (hi : code[m.pc.toNat]? = some i) (hz : (doV F i m).2 = 0) : MI F code (doV F i m).1 (s + 1) := by
  have hd := h.doOk hm hp hs hi
  obtain ⟨o, mo, hg⟩ := h.good
  have hr := hm.st hp.1
  obtain ⟨g1, g2⟩ := hg.rch hr
  have hcl := hg.closed _ _ _ g1 (by omega) hi
  have him := List.mem_of_getElem? hi
  have hdep := doV_depth F i m hd.op hd.takes (fun e => (hd.snd e).2.2) hz
  have hjmp := (h.ok.2 i him).2
  have hpc := doV_pc F i m hd.op hp.1 (fun e => (hjmp e).1)
  refine ⟨?_, ?_, by rw [doV_regs]; exact hm.rl, by have := doV_notes F i m; have := hm.nl; omega, by have := hm.s0; omega⟩
  · rcases hpc with e | ⟨e1, e2⟩
    · omega
    · have := nextV_le h.ok hi _ e2
      omega
  · intro h0
    rcases hpc with e | ⟨e1, e2⟩
    · omega
    · rw [hdep]
      exact .step hr hi hcl.1 hcl.2.1 e2
theorem RFix.run {F : Fx} {code : List Ins} (h : RFix F code) : ∀ (f : Nat) (m : Mach) (s : Int), MI F code m s → RunOk F code f m s
  | 0, _, _, _ => trivial
  | f + 1, m, s, hm => fun hp hs i hi => ⟨h.doOk hm hp hs hi, fun hz => h.run f _ _ (h.next hm hp hs hi hz)⟩
theorem firstNZ_all {l : List Int} (h : firstNZ l = 0) : ∀ x ∈ l, x = 0 := firstNZ_zero h
/-- What holds where a handler may be run. -/
theorem mayV.ro {p : Prg} {who : Int} {l : Lcl} {h : Int} {args : List Int} (hm : mayV p who l h args) :
    ∃ x, p.hs[h.toNat]? = some x ∧ x ∈ p.hs ∧ checkV p = 0 ∧ RFix (fxOf p who l args) x.code ∧ MI (fxOf p who l args) x.code (m0Of l) 0 ∧ 1 ≤ p.fuel ∧ p.fuel ≤ 256 ∧ (args.length : Int) = x.args := by
  obtain ⟨h1, h2, h3, h4, h5, h6, h7, h8⟩ := hm
  have hj : h.toNat < p.hs.length := by omega
  have hx : p.hs[h.toNat]? = some p.hs[h.toNat] := List.getElem?_eq_getElem hj
  have hmem : p.hs[h.toNat] ∈ p.hs := List.getElem_mem hj
  have hc : checkV p = 0 := by
    unfold flowV at h1
    split at h1
    · rename_i q; exact absurd h1 q
    · rename_i q; simpa using q
  have hw : walkE p.hs p.hs[h.toNat] = 0 := by
    unfold flowV at h1
    rw [if_neg (by simpa using hc)] at h1
    exact firstNZ_zero h1 _ (List.mem_map_of_mem hmem)
  have hco := codeOk_of hc hmem
  have ha : argsOf p.hs h = p.hs[h.toNat].args := by unfold argsOf; rw [hx]; rfl
  obtain ⟨_, _, _, _, c5, c6, c7, _, _⟩ := checkV_zero hc
  obtain ⟨_, _, d3, d4⟩ := handlerV_zero (c7 _ hmem)
  refine ⟨_, hx, hmem, hc, ⟨hco, ?_, ⟨p.hs.length, p.hs[h.toNat].code.length, ?_⟩, ⟨h2, by simp only [fxOf]; omega⟩, c6⟩, ⟨by simp [m0Of], fun _ => ?_, h7, by simp [m0Of], by omega⟩, c5, c6, by rw [← ha]; exact h6⟩
  · rcases walk_good hco with ⟨o, m, e, g⟩ | ⟨e, _⟩
    · exact ⟨o, m, g⟩
    · unfold walkE at hw; rw [e] at hw; simp at hw
  · intro i hi
    have := d4 i hi
    simp only [fxOf]
    rw [h6, ha]
    exact this
  · exact .start
theorem run_pc (p : Prg) (who : Int) (l : Lcl) (h : Int) (args : List Int) : PC Try.prog 45 [p.av, iv who, l.av, iv h, ints args] (runR p who l h args).av := by
  refine mrun_pc p who l h args (fun hm => ?_) (fun hm => ?_)
  · obtain ⟨x, hx, _, _, hro, hmi, _, _, _⟩ := hm.ro
    rw [hx]
    exact hro.run _ _ _ hmi
  · obtain ⟨_, _, _, _, _, _, h1, h2, _⟩ := hm.ro
    omega

end Go.Gv

/- The helpers of chapter 6's laws. -/
set_option linter.unusedVariables false
set_option linter.unusedSimpArgs false
namespace Go.Gv
open Go.Proofs

def one6_r0 : List AI := [⟨(some 4), none, (.op (.new 47004 4 (.agg [.nils, .nils, .nils, (.int .i64 0)])))⟩]
def one6_r1 : List AI := [⟨(some 5), none, (.op (.mv (.t 1)))⟩, ⟨(some 6), none, (.op (.build [(.int .i64 0), .nils] [(1, (1, (.t 5)))]))⟩, ⟨(some 7), none, (.op (.bsl 47007 2 33 1 (.agg [(.int .i64 0), .nils]) [(0, (.t 6))]))⟩, ⟨(some 8), none, (.op (.bsl 47008 1 3 2 (.int .i64 0) [(0, (.c (.int .i64 0))), (1, (.c (.int .i64 0)))]))⟩, ⟨(some 9), none, (.op (.build [.nils, (.int .i64 0), (.int .i64 0), (.bool false)] [(0, (1, (.t 8))), (2, (1, (.c (.int .i64 0))))]))⟩, ⟨(some 10), none, (.op (.build [.nils, (.int .i64 0), (.int .i64 0), (.bool false)] [(2, (1, (.c (.int .i64 (-1)))))]))⟩, ⟨(some 11), none, (.op (.bsl 47011 4 38 2 (.agg [.nils, (.int .i64 0), (.int .i64 0), (.bool false)]) [(0, (.t 9)), (1, (.t 10))]))⟩, ⟨(some 12), none, (.op (.mv (.t 0)))⟩, ⟨(some 13), none, (.op (.build [.nils, .nils, .nils, (.int .i64 0)] [(0, (1, (.t 7))), (1, (1, (.t 11))), (3, (1, (.t 12)))]))⟩, ⟨none, none, (.op (.store 4 (.t 4) (.t 13)))⟩]
def one6_c : AC := (.seq (.reg one6_r0) (.seq (.reg one6_r1) .ret))
def one6_res : List ARes := [(.cell (some 4) 4)]
set_option maxRecDepth 100000 in
theorem one6_get : getF Try.prog 47 47000 [] = some ("gavotte/gavottelaw6.one", 14, one6_c, one6_res) := by kernel_rfl
def local6_r0 : List AI := [⟨(some 4), none, (.op (.new 48004 5 (.agg [.nils, (.bool false), (.int .i64 0), (.int .i64 0), (.int .i64 0)])))⟩]
def local6_r1 : List AI := [⟨(some 5), none, (.op (.mv (.t 0)))⟩, ⟨(some 6), none, (.op (.mv (.t 1)))⟩, ⟨(some 7), none, (.op (.bsl 48007 1 3 2 (.int .i64 0) [(0, (.t 5)), (1, (.t 6))]))⟩, ⟨(some 8), none, (.op (.build [.nils, (.bool false), (.int .i64 0), (.int .i64 0), (.int .i64 0)] [(0, (1, (.t 7)))]))⟩, ⟨none, none, (.op (.store 5 (.t 4) (.t 8)))⟩]
def local6_c : AC := (.seq (.reg local6_r0) (.seq (.reg local6_r1) .ret))
def local6_res : List ARes := [(.cell (some 5) 4)]
set_option maxRecDepth 100000 in
theorem local6_get : getF Try.prog 48 48000 [] = some ("gavotte/gavottelaw6.local", 9, local6_c, local6_res) := by kernel_rfl
attribute [simp] one6_r0 one6_r1 one6_res local6_r0 local6_r1 local6_res

def oneP6 (fuel : Int) (code : List Ins) : Prg := ⟨[⟨0, code⟩], [⟨[0, 0], 0, 0, false⟩, ⟨[], 0, -1, false⟩], [], fuel⟩
def oneA6 (fuel : Int) (code : List Ins) : AV := .agg [.lst 2 [.agg [iv 0, .lst 2 (code.map Ins.av)]], .lst 4 [.agg [ints [0, 0], iv 0, iv 0, .bool false], .agg [.nils, iv 0, iv (-1), .bool false]], .nils, iv fuel]
theorem one6_pc (fuel : Int) (code : List Ins) : PC Try.prog 47 [iv fuel, .lst 2 (code.map Ins.av)] (oneA6 fuel code) := by
  refine pc_of_get one6_get (by simp) _ (by simp) _ ?_
  unfold one6_c
  simp [oneA6, ints]
theorem local6_pc (a b : Int) : PC Try.prog 48 [iv a, iv b] (Lcl.av ⟨[a, b], false, 0, 0, 0⟩) := by
  refine pc_of_get local6_get (by simp) _ (by simp) _ ?_
  unfold local6_c
  simp [Lcl.av, ints]

end Go.Gv

/- Runs without a bound, and what a bound makes of them; the runs of chapter 6's laws. -/
set_option linter.unusedVariables false
set_option linter.unusedSimpArgs false
namespace Go.Gv
open Go.Proofs

instance : DecidableEq Mach := fun a b => decidable_of_iff (a.pc = b.pc ∧ a.st = b.st ∧ a.regs = b.regs ∧ a.notes = b.notes ∧ a.armed = b.armed) (by cases a; cases b; simp)
instance : DecidableEq Lcl := fun a b => decidable_of_iff (a.regs = b.regs ∧ a.armed = b.armed ∧ a.down = b.down ∧ a.sent = b.sent ∧ a.over = b.over) (by cases a; cases b; simp)
instance : DecidableEq Res := fun a b => decidable_of_iff (a.l = b.l ∧ a.notes = b.notes ∧ a.steps = b.steps) (by cases a; cases b; simp)
/-- A run without a bound. -/
def runU (F : Fx) (code : List Ins) : Nat → Mach → Int → Option (Option Mach × Int × Int)
  | 0, _, _ => none
  | f + 1, m, s =>
    if 0 ≤ m.pc ∧ m.pc < code.length then
      (match code[m.pc.toNat]? with
       | some i => if (doV F i m).2 ≠ 0 then some (none, (doV F i m).2, s + 1) else runU F code f (doV F i m).1 (s + 1)
       | none => none)
    else some (some m, 0, s)
theorem runU_ge (F : Fx) (code : List Ins) : ∀ (f : Nat) (m : Mach) (s : Int) (R : Option Mach × Int × Int), runU F code f m s = some R → s ≤ R.2.2
  | 0, _, _, _, h => by cases h
  | f + 1, m, s, R, h => by
    rw [runU] at h
    split at h
    · split at h
      · split at h
        · cases h; simp only; omega
        · have := runU_ge F code f _ _ R h; omega
      · cases h
    · cases h; exact Int.le_refl _
theorem runG_cut (F : Fx) (code : List Ins) : ∀ (f : Nat) (m : Mach) (s : Int) (R : Option Mach × Int × Int), runU F code f m s = some R → s ≤ F.p.fuel → ∀ f' : Nat, F.p.fuel - s < f' →
    runG F code f' m s = if R.2.2 ≤ F.p.fuel then R else (none, 2, F.p.fuel)
  | 0, _, _, _, h, _, _, _ => by cases h
  | f + 1, m, s, R, h, hs, 0, hf => by omega
  | f + 1, m, s, R, h, hs, f' + 1, hf => by
    have hge := runU_ge F code _ _ _ _ h
    rw [runU] at h
    rw [runG]
    by_cases hp : 0 ≤ m.pc ∧ m.pc < code.length
    · rw [if_pos hp] at h ⊢
      have hi : code[m.pc.toNat]? = some (code[m.pc.toNat]'(by omega)) := List.getElem?_eq_getElem (by omega)
      rw [hi] at h ⊢
      simp only at h ⊢
      by_cases hz : (doV F (code[m.pc.toNat]'(by omega)) m).2 ≠ 0
      · rw [if_pos hz] at h
        rw [if_pos hz]
        have hR := Option.some.inj h
        rw [← hR]
        simp only
        by_cases hl : s < F.p.fuel
        · rw [if_pos hl, if_pos (by omega)]
        · rw [if_neg hl, if_neg (by omega)]
          have : s = F.p.fuel := by omega
          rw [this]
      · rw [if_neg hz] at h
        rw [if_neg hz]
        by_cases hl : s < F.p.fuel
        · rw [if_pos hl]
          exact runG_cut F code f _ _ R h (by omega) f' (by omega)
        · have hg2 := runU_ge F code _ _ _ _ h
          rw [if_neg hl, if_neg (by omega)]
          have : s = F.p.fuel := by omega
          rw [this]
    · rw [if_neg hp] at h ⊢
      cases h
      rw [if_pos hs]
theorem runU_fuel (hs : List Hnd) (ac : List Actr) (bt : List Nt) (a b who : Int) (args : List Int) (d s' o : Int) (av : AV) (code : List Ins) : ∀ (f : Nat) (m : Mach) (s : Int), runU ⟨⟨hs, ac, bt, a⟩, who, args, d, s', o, av⟩ code f m s = runU ⟨⟨hs, ac, bt, b⟩, who, args, d, s', o, av⟩ code f m s
  | 0, _, _ => rfl
  | f + 1, m, s => by
    have e : ∀ i, doV ⟨⟨hs, ac, bt, a⟩, who, args, d, s', o, av⟩ i m = doV ⟨⟨hs, ac, bt, b⟩, who, args, d, s', o, av⟩ i m := fun _ => rfl
    rw [runU, runU]
    simp only [e, runU_fuel hs ac bt a b who args d s' o av code f]
/-- A run of a program of one handler. -/
theorem runR_cut (p : Prg) (who : Int) (l : Lcl) (h : Int) (args : List Int) (x : Hnd) (hx : p.hs[h.toNat]? = some x) (hm : mayV p who l h args) (f : Nat) (R : Option Mach × Int × Int) (hr : runU (fxOf p who l args) x.code f (m0Of l) 0 = some R) :
    runR p who l h args = goR l (if R.2.2 ≤ p.fuel then R else (none, 2, p.fuel)) := by
  obtain ⟨_, _, _, _, _, _, h1, h2, _⟩ := hm.ro
  unfold runR
  rw [if_pos hm, hx]
  have := runG_cut (fxOf p who l args) x.code f (m0Of l) 0 R hr (by simp only [fxOf]; omega) (p.fuel.toNat + 1) (by simp only [fxOf]; omega)
  simp only [Option.map_some, Option.getD_some]
  rw [this]
  rfl
theorem flowV_fuel' (p : Prg) (h1 : 1 ≤ p.fuel) (h2 : p.fuel ≤ 256) : flowV p = flowV { p with fuel := 1 } := by
  unfold flowV checkV
  simp [show ¬ p.fuel < 1 by omega, show ¬ 256 < p.fuel by omega]
theorem may_one (fuel : Int) (code : List Ins) (who : Int) (l : Lcl) (h1 : 1 ≤ fuel) (h2 : fuel ≤ 256) (hf : flowV (oneP6 1 code) = 0) (hw : 0 ≤ who ∧ who ≤ 1) (hl : l.regs.length ≤ 8) (hd : l.down = 0) : mayV (oneP6 fuel code) who l 0 [] := by
  refine ⟨?_, hw.1, ?_, by omega, ?_, ?_, hl, hd⟩
  · rw [flowV_fuel' _ (by simpa [oneP6] using h1) (by simpa [oneP6] using h2)]; exact hf
  · simp [oneP6]; omega
  · simp [oneP6]
  · simp [oneP6, argsOf]
theorem run_one (fuel : Int) (code : List Ins) (who : Int) (l : Lcl) (h1 : 1 ≤ fuel) (h2 : fuel ≤ 256) (hf : flowV (oneP6 1 code) = 0) (hw : 0 ≤ who ∧ who ≤ 1) (hl : l.regs.length ≤ 8) (hd : l.down = 0) (f : Nat) (R : Option Mach × Int × Int)
    (hr : runU (fxOf (oneP6 1 code) who l []) code f (m0Of l) 0 = some R) : runR (oneP6 fuel code) who l 0 [] = goR l (if R.2.2 ≤ fuel then R else (none, 2, fuel)) := by
  refine runR_cut (oneP6 fuel code) who l 0 [] ⟨0, code⟩ rfl (may_one fuel code who l h1 h2 hf hw hl hd) f R ?_
  rw [← hr]
  exact runU_fuel _ _ _ _ _ _ _ _ _ _ _ _ _ _ _
-- awake
def awkA : List Ins := [⟨5, 0⟩, ⟨1, 2⟩, ⟨11, 0⟩, ⟨6, 1⟩, ⟨8, 0⟩, ⟨22, 0⟩, ⟨23, 0⟩]
theorem awk_flow : flowV (oneP6 1 awkA) = 0 := by decide
theorem awk_run : runR (oneP6 10 awkA) 0 ⟨[7, 0], false, 0, 0, 0⟩ 0 [] = ⟨⟨[7, 14], true, 0, 1, 0⟩, [⟨0, 0, []⟩], 7⟩ := by decide +kernel
theorem awk_run2 : runR (oneP6 10 [⟨20, 0⟩]) 0 ⟨[1, 2], false, 0, 0, 0⟩ 0 [] = ⟨⟨[1, 2], false, 2, 0, 0⟩, [], 10⟩ := by decide +kernel
theorem awk_run3 : runR (oneP6 10 [⟨1, 0⟩, ⟨1, 0⟩, ⟨12, 0⟩]) 0 ⟨[1, 2], false, 0, 0, 0⟩ 0 [] = ⟨⟨[1, 2], false, 3, 0, 0⟩, [], 3⟩ := by decide +kernel
theorem awk_run4 : runR (oneP6 10 [⟨1, 2⟩, ⟨22, 0⟩]) 0 ⟨[1, 2], false, 0, 0, 0⟩ 0 [] = ⟨⟨[1, 2], false, 4, 0, 0⟩, [], 2⟩ := by decide +kernel

end Go.Gv
