/- Texts of this proof, one behind the other. What is proved, and on which conditions, stands ahead of each. -/
import Derived.Test.YthhgjncefjnogaaProg
import Derived.Test.YthhgjncefjnogaaMgVmRuns14
import Derived.Test.YthhgjncefjnogaaMgVmRuns13
import Derived.Test.YthhgjncefjnogaaMgVmRuns6

/- What the reference's Run answers: the same as vm's. -/
set_option linter.unusedVariables false
set_option linter.unusedSimpArgs false
namespace Go.Gv
open Go.Proofs

theorem rr_all {F : Fx} {p : Prg} {l : Lcl} {code : List Ins} {m : Mach} {s : Int} {i : Ins} {κ : Ex → St → Prop} {S : St} (hF : F.p = p) (h : RIs F p l code m s S) (hp : 0 ≤ m.pc) (hlt : m.pc.toNat < code.length) (hi : code[m.pc.toNat] = i) (hs : 0 ≤ s ∧ s < p.fuel ∧ s ≤ 1000) (ok : DoOk F i m) (hj : i.op = 20 ∨ i.op = 21 → 0 ≤ i.a) (hk : RPost F p l code m s i κ) : V Try.prog rrun_l0 κ S := by
  rcases lit25 ok.op.1 ok.op.2 with e | e | e | e | e | e | e | e | e | e | e | e | e | e | e | e | e | e | e | e | e | e | e | e | e
  · exact rr1 hF h hp hlt hi hs ok e hk
  · exact rr2 hF h hp hlt hi hs ok e hk
  · exact rr3 hF h hp hlt hi hs ok e hk
  · exact rr4 hF h hp hlt hi hs ok e hk
  · exact rr5 hF h hp hlt hi hs ok e hk
  · exact rr6 hF h hp hlt hi hs ok e hk
  · exact rr7 hF h hp hlt hi hs ok e hk
  · exact rr8 hF h hp hlt hi hs ok e hk
  · exact rr9 hF h hp hlt hi hs ok e hk
  · exact rr10 hF h hp hlt hi hs ok e hk
  · exact rr11 hF h hp hlt hi hs ok e hk
  · exact rr12 hF h hp hlt hi hs ok e hk
  · exact rr13 hF h hp hlt hi hs ok e hk
  · exact rr14 hF h hp hlt hi hs ok e hk
  · exact rr15 hF h hp hlt hi hs ok e hk
  · exact rr16 hF h hp hlt hi hs ok e hk
  · exact rr17 hF h hp hlt hi hs ok e hk
  · exact rr18 hF h hp hlt hi hs ok e hk
  · exact rr19 hF h hp hlt hi hs ok e hk
  · exact rr20 hF h hp hlt hi hs ok e (hj (.inl e)) hk
  · exact rr21 hF h hp hlt hi hs ok e (hj (.inr e)) hk
  · exact rr22 hF h hp hlt hi hs ok e hk
  · exact rr23 hF h hp hlt hi hs ok e hk
  · exact rr24 hF h hp hlt hi hs ok e hk
  · exact rr25 hF h hp hlt hi hs ok e hk
def RGI (F : Fx) (p : Prg) (l : Lcl) (code : List Ins) (R : Option Mach × Int × Int) (f : Nat) (S : St) : Prop :=
  ∃ m s, RIs F p l code m s S ∧ MI F code m s ∧ s ≤ p.fuel ∧ (f : Int) = p.fuel - s + 1 ∧ runG F code f m s = R
theorem rrun_pc (p : Prg) (hl : p.hs.length < 1000000) (who : Int) (l : Lcl) (h : Int) (args : List Int) : PC Try.prog 46 [p.av, iv who, l.av, iv h, ints args] (runR p who l h args).av := by
  refine pc_of_get rrun_get (by simp) _ (by simp) _ ?_
  unfold rrun_c
  simp
  refine call (rmay_pc p hl who l h args) (by simp [Lcl.av]) ?_
  by_cases hm : mayV p who l h args
  rotate_left
  · simp [hm, runR, zeroRes, Res.av]
  obtain ⟨x, hx, _, _, hro, hmi, hf1, hf2, _⟩ := hm.ro
  have h0 := hm.2.2.2.1
  have hrl := hm.2.2.2.2.2.2.1
  have hR : runR p who l h args = goR l (runG (fxOf p who l args) x.code (p.fuel.toNat + 1) (m0Of l) 0) := by
    unfold runR; rw [if_pos hm, hx]; rfl
  rw [hR]
  have hF1 : (fxOf p who l args).who = who := rfl
  have hF2 : (fxOf p who l args).args = args := rfl
  have hF3 : (fxOf p who l args).p = p := rfl
  generalize hF : fxOf p who l args = F at *
  generalize hRR : runG F x.code (p.fuel.toNat + 1) (m0Of l) 0 = R at *
  have z1 : l.regs.length * 8 ≤ 140737488355328 := by omega
  simp [hm, h0, hx, Lcl.av, z1]
  refine loopM (RGI F p l x.code R) (p.fuel.toNat + 1) ?_ ?_
  · refine ⟨m0Of l, 0, ?_, hmi, by omega, by omega, hRR⟩
    exact ⟨by simp [hF1], by simp [hF2], by simp, by simp, by simp, by simp, by simp, ⟨18, .sl 1000046012 23 1 0 l.regs.length, by simp, by simp [m0Of], 23, by simp [m0Of], by simp [m0Of]⟩, ⟨27, 32, by simp, by simp⟩, by simp [AccIs, m0Of], by simp [StkR, m0Of], by simp, by simp [m0Of, atV_nn]⟩
  · rintro f S ⟨m, s, hI, hMI, hs1, hfs, hrun⟩
    have hs0 := hMI.s0
    obtain ⟨f, rfl⟩ : ∃ f', f = f' + 1 := ⟨f - 1, by omega⟩
    by_cases hpc : 0 ≤ m.pc ∧ m.pc < x.code.length
    · have hat : m.pc.toNat < x.code.length := by omega
      have hget : x.code[m.pc.toNat]? = some x.code[m.pc.toNat] := List.getElem?_eq_getElem hat
      by_cases hsf : s < p.fuel
      · have hsf' : s < F.p.fuel := by rw [hF3]; exact hsf
        have hdo := hro.doOk hMI hpc hsf' hget
        have hj := (hro.ok.2 _ (List.mem_of_getElem? hget)).2
        have hstep : runG F x.code (f + 1) m s = if (doV F x.code[m.pc.toNat] m).2 ≠ 0 then (none, (doV F x.code[m.pc.toNat] m).2, s + 1) else runG F x.code f (doV F x.code[m.pc.toNat] m).1 (s + 1) := by
          rw [runG, if_pos hpc, if_pos hsf', hget]
        rw [hstep] at hrun
        refine rr_all hF3 hI hpc.1 hat rfl ⟨hs0, hsf, by omega⟩ hdo (fun e => (hj e).1) ⟨fun hz S' hI' => ?_, fun hz S' s2 e1 e2 => ?_⟩
        · rw [if_neg (by rw [hz]; simp)] at hrun
          exact ⟨f, by omega, _, s + 1, hI', hro.next hMI hpc hsf' hget hz, by omega, by omega, hrun⟩
        · rw [if_pos hz] at hrun
          rw [← hrun]
          simp [e1, e2, goR, Res.av]
      · obtain ⟨a1, a4, a5, c5, a10, c10, a11, ⟨sn, r, a12, c12, sr, rfl, cr⟩, ⟨sf, s2, a13, c13⟩, a14, a15, a16, a17⟩ := hI
        have hrn : runG F x.code (f + 1) m s = (none, 2, s) := by
          rw [runG, if_pos hpc, if_neg (by rw [hF3]; exact hsf)]
        rw [hrn] at hrun
        rw [atV_nn _ hpc.1] at a17
        simp [rrun_l0, a5, c5, a10, c10, a11, a13, c13, a16, a17, hpc, show p.fuel ≤ s by omega]
        rw [← hrun]
        simp [goR, Res.av]
    · obtain ⟨a1, a4, a5, c5, a10, c10, a11, ⟨sn, r, a12, c12, sr, rfl, cr⟩, ⟨sf, s2, a13, c13⟩, a14, a15, a16, a17⟩ := hI
      have hrn : runG F x.code (f + 1) m s = (some m, 0, s) := by rw [runG, if_neg hpc]
      rw [hrn] at hrun
      have hat : atV x.code m.pc = x.code.length := by
        have := hMI.pc
        unfold atV; split <;> omega
      rw [hat] at a17
      have hli : ∀ blk : Nat → Option Blk, blk 1000046012 = some ⟨sr, 1, m.regs.map iv⟩ → listOf blk 1 (.sl 1000046012 sr 1 0 m.regs.length) = some (m.regs.map iv) := fun blk hb => list_ints m.regs blk 1000046012 sr hb
      rcases a14 with ⟨u1, u2⟩ | ⟨s3, u1, u2⟩
      · simp at u2
        simp [rrun_l0, a10, c10, a11, a12, c12, a16, a17, cr, u1]
        rw [← hrun]
        simp [goR, Res.av, hli, cr, u2]
      · simp [rrun_l0, a10, c10, a11, a12, c12, a16, a17, cr, u1, u2]
        rw [← hrun]
        simp [goR, Res.av, hli, cr]

end Go.Gv

/- Runs without a bound, and what a bound makes of them; the runs of chapter 6's laws. -/
set_option linter.unusedVariables false
set_option linter.unusedSimpArgs false
namespace Go.Gv
open Go.Proofs

instance : DecidableEq Mach := fun a b => decidable_of_iff (a.pc = b.pc ∧ a.st = b.st ∧ a.regs = b.regs ∧ a.notes = b.notes ∧ a.armed = b.armed) (by cases a; cases b; simp)
instance : DecidableEq Lcl := fun a b => decidable_of_iff (a.regs = b.regs ∧ a.armed = b.armed ∧ a.down = b.down ∧ a.sent = b.sent ∧ a.over = b.over) (by cases a; cases b; simp)
instance : DecidableEq Res := fun a b => decidable_of_iff (a.l = b.l ∧ a.notes = b.notes ∧ a.steps = b.steps) (by cases a; cases b; simp)
/-- A run without a bound. -/
def runU (F : Fx) (code : List Ins) : Nat → Mach → Int → Option (Option Mach × Int × Int)
  | 0, _, _ => none
  | f + 1, m, s =>
    if 0 ≤ m.pc ∧ m.pc < code.length then
      (match code[m.pc.toNat]? with
       | some i => if (doV F i m).2 ≠ 0 then some (none, (doV F i m).2, s + 1) else runU F code f (doV F i m).1 (s + 1)
       | none => none)
    else some (some m, 0, s)
theorem runU_ge (F : Fx) (code : List Ins) : ∀ (f : Nat) (m : Mach) (s : Int) (R : Option Mach × Int × Int), runU F code f m s = some R → s ≤ R.2.2
  | 0, _, _, _, h => by cases h
  | f + 1, m, s, R, h => by
    rw [runU] at h
    split at h
    · split at h
      · split at h
        · cases h; simp only; omega
        · have := runU_ge F code f _ _ R h; omega
      · cases h
    · cases h; exact Int.le_refl _
theorem runG_cut (F : Fx) (code : List Ins) : ∀ (f : Nat) (m : Mach) (s : Int) (R : Option Mach × Int × Int), runU F code f m s = some R → s ≤ F.p.fuel → ∀ f' : Nat, F.p.fuel - s < f' →
    runG F code f' m s = if R.2.2 ≤ F.p.fuel then R else (none, 2, F.p.fuel)
  | 0, _, _, _, h, _, _, _ => by cases h
  | f + 1, m, s, R, h, hs, 0, hf => by omega
  | f + 1, m, s, R, h, hs, f' + 1, hf => by
    have hge := runU_ge F code _ _ _ _ h
    rw [runU] at h
    rw [runG]
    by_cases hp : 0 ≤ m.pc ∧ m.pc < code.length
    · rw [if_pos hp] at h ⊢
      have hi : code[m.pc.toNat]? = some (code[m.pc.toNat]'(by omega)) := List.getElem?_eq_getElem (by omega)
      rw [hi] at h ⊢
      simp only at h ⊢
      by_cases hz : (doV F (code[m.pc.toNat]'(by omega)) m).2 ≠ 0
      · rw [if_pos hz] at h
        rw [if_pos hz]
        have hR := Option.some.inj h
        rw [← hR]
        simp only
        by_cases hl : s < F.p.fuel
        · rw [if_pos hl, if_pos (by omega)]
        · rw [if_neg hl, if_neg (by omega)]
          have : s = F.p.fuel := by omega
          rw [this]
      · rw [if_neg hz] at h
        rw [if_neg hz]
        by_cases hl : s < F.p.fuel
        · rw [if_pos hl]
          exact runG_cut F code f _ _ R h (by omega) f' (by omega)
        · have hg2 := runU_ge F code _ _ _ _ h
          rw [if_neg hl, if_neg (by omega)]
          have : s = F.p.fuel := by omega
          rw [this]
    · rw [if_neg hp] at h ⊢
      cases h
      rw [if_pos hs]
theorem runU_fuel (hs : List Hnd) (ac : List Actr) (bt : List Nt) (a b who : Int) (args : List Int) (d s' o : Int) (code : List Ins) : ∀ (f : Nat) (m : Mach) (s : Int), runU ⟨⟨hs, ac, bt, a⟩, who, args, d, s', o⟩ code f m s = runU ⟨⟨hs, ac, bt, b⟩, who, args, d, s', o⟩ code f m s
  | 0, _, _ => rfl
  | f + 1, m, s => by
    have e : ∀ i, doV ⟨⟨hs, ac, bt, a⟩, who, args, d, s', o⟩ i m = doV ⟨⟨hs, ac, bt, b⟩, who, args, d, s', o⟩ i m := fun _ => rfl
    rw [runU, runU]
    simp only [e, runU_fuel hs ac bt a b who args d s' o code f]
/-- A run of a program of one handler. -/
theorem runR_cut (p : Prg) (who : Int) (l : Lcl) (h : Int) (args : List Int) (x : Hnd) (hx : p.hs[h.toNat]? = some x) (hm : mayV p who l h args) (f : Nat) (R : Option Mach × Int × Int) (hr : runU (fxOf p who l args) x.code f (m0Of l) 0 = some R) :
    runR p who l h args = goR l (if R.2.2 ≤ p.fuel then R else (none, 2, p.fuel)) := by
  obtain ⟨_, _, _, _, _, _, h1, h2, _⟩ := hm.ro
  unfold runR
  rw [if_pos hm, hx]
  have := runG_cut (fxOf p who l args) x.code f (m0Of l) 0 R hr (by simp only [fxOf]; omega) (p.fuel.toNat + 1) (by simp only [fxOf]; omega)
  simp only [Option.map_some, Option.getD_some]
  rw [this]
  rfl
theorem flowV_fuel' (p : Prg) (h1 : 1 ≤ p.fuel) (h2 : p.fuel ≤ 256) : flowV p = flowV { p with fuel := 1 } := by
  unfold flowV checkV
  simp [show ¬ p.fuel < 1 by omega, show ¬ 256 < p.fuel by omega]
theorem may_one (fuel : Int) (code : List Ins) (who : Int) (l : Lcl) (h1 : 1 ≤ fuel) (h2 : fuel ≤ 256) (hf : flowV (oneP6 1 code) = 0) (hw : 0 ≤ who ∧ who ≤ 1) (hl : l.regs.length ≤ 8) (hd : l.down = 0) : mayV (oneP6 fuel code) who l 0 [] := by
  refine ⟨?_, hw.1, ?_, by omega, ?_, ?_, hl, hd⟩
  · rw [flowV_fuel' _ (by simpa [oneP6] using h1) (by simpa [oneP6] using h2)]; exact hf
  · simp [oneP6]; omega
  · simp [oneP6]
  · simp [oneP6, argsOf]
theorem run_one (fuel : Int) (code : List Ins) (who : Int) (l : Lcl) (h1 : 1 ≤ fuel) (h2 : fuel ≤ 256) (hf : flowV (oneP6 1 code) = 0) (hw : 0 ≤ who ∧ who ≤ 1) (hl : l.regs.length ≤ 8) (hd : l.down = 0) (f : Nat) (R : Option Mach × Int × Int)
    (hr : runU (fxOf (oneP6 1 code) who l []) code f (m0Of l) 0 = some R) : runR (oneP6 fuel code) who l 0 [] = goR l (if R.2.2 ≤ fuel then R else (none, 2, fuel)) := by
  refine runR_cut (oneP6 fuel code) who l 0 [] ⟨0, code⟩ rfl (may_one fuel code who l h1 h2 hf hw hl hd) f R ?_
  rw [← hr]
  exact runU_fuel _ _ _ _ _ _ _ _ _ _ _ _ _ _
-- awake
def awkA : List Ins := [⟨5, 0⟩, ⟨1, 2⟩, ⟨11, 0⟩, ⟨6, 1⟩, ⟨8, 0⟩, ⟨22, 0⟩, ⟨23, 0⟩]
theorem awk_flow : flowV (oneP6 1 awkA) = 0 := by decide
theorem awk_run : runR (oneP6 10 awkA) 0 ⟨[7, 0], false, 0, 0, 0⟩ 0 [] = ⟨⟨[7, 14], true, 0, 1, 0⟩, [⟨0, 0, []⟩], 7⟩ := by decide +kernel
theorem awk_run2 : runR (oneP6 10 [⟨20, 0⟩]) 0 ⟨[1, 2], false, 0, 0, 0⟩ 0 [] = ⟨⟨[1, 2], false, 2, 0, 0⟩, [], 10⟩ := by decide +kernel
theorem awk_run3 : runR (oneP6 10 [⟨1, 0⟩, ⟨1, 0⟩, ⟨12, 0⟩]) 0 ⟨[1, 2], false, 0, 0, 0⟩ 0 [] = ⟨⟨[1, 2], false, 3, 0, 0⟩, [], 3⟩ := by decide +kernel
theorem awk_run4 : runR (oneP6 10 [⟨1, 2⟩, ⟨22, 0⟩]) 0 ⟨[1, 2], false, 0, 0, 0⟩ 0 [] = ⟨⟨[1, 2], false, 4, 0, 0⟩, [], 2⟩ := by decide +kernel

end Go.Gv

/- What chapter 6's helpers same and awake answer. -/
set_option linter.unusedVariables false
set_option linter.unusedSimpArgs false
namespace Go.Gv
open Go.Proofs

def same6_r0 : List AI := [⟨(some 2), none, (.op (.box 44002 7 (.t 0)))⟩, ⟨(some 3), none, (.op (.box 44003 7 (.t 1)))⟩, ⟨(some 4), none, (.op (.mv (.c (.bool false))))⟩]
def same6_r1 : List AI := [⟨(some 5), none, (.op (.fld 0 (.t 2)))⟩, ⟨(some 6), none, (.op (.fld 0 (.t 5)))⟩, ⟨(some 7), none, (.op (.load none (.t 6)))⟩, ⟨(some 8), none, (.op (.fld 0 (.t 3)))⟩, ⟨(some 9), none, (.op (.fld 0 (.t 8)))⟩, ⟨(some 10), none, (.op (.load none (.t 9)))⟩, ⟨(some 11), none, (.call (.c (.fn 39 [])) [(.t 7), (.t 10)])⟩, ⟨(some 12), none, (.op (.mv (.t 11)))⟩, ⟨(some 13), (some (12, true)), (.op (.fld 0 (.t 2)))⟩, ⟨(some 14), (some (12, true)), (.op (.fld 1 (.t 13)))⟩, ⟨(some 15), (some (12, true)), (.op (.load none (.t 14)))⟩, ⟨(some 16), (some (12, true)), (.op (.fld 0 (.t 3)))⟩, ⟨(some 17), (some (12, true)), (.op (.fld 1 (.t 16)))⟩, ⟨(some 18), (some (12, true)), (.op (.load none (.t 17)))⟩, ⟨(some 19), (some (12, true)), (.op (.eqv false (.t 15) (.t 18)))⟩, ⟨(some 20), none, (.op (.pick (.t 12) (.t 19) (.c (.bool false))))⟩, ⟨(some 21), none, (.op (.mv (.t 20)))⟩, ⟨(some 22), (some (21, true)), (.op (.fld 0 (.t 2)))⟩, ⟨(some 23), (some (21, true)), (.op (.fld 2 (.t 22)))⟩, ⟨(some 24), (some (21, true)), (.op (.load none (.t 23)))⟩, ⟨(some 25), (some (21, true)), (.op (.fld 0 (.t 3)))⟩, ⟨(some 26), (some (21, true)), (.op (.fld 2 (.t 25)))⟩, ⟨(some 27), (some (21, true)), (.op (.load none (.t 26)))⟩, ⟨(some 28), (some (21, true)), (.op (.ibin .eql (.t 24) (.t 27)))⟩, ⟨(some 29), none, (.op (.pick (.t 21) (.t 28) (.c (.bool false))))⟩, ⟨(some 30), none, (.op (.mv (.t 29)))⟩, ⟨(some 31), (some (30, true)), (.op (.fld 0 (.t 2)))⟩, ⟨(some 32), (some (30, true)), (.op (.fld 3 (.t 31)))⟩, ⟨(some 33), (some (30, true)), (.op (.load none (.t 32)))⟩, ⟨(some 34), (some (30, true)), (.op (.fld 0 (.t 3)))⟩, ⟨(some 35), (some (30, true)), (.op (.fld 3 (.t 34)))⟩, ⟨(some 36), (some (30, true)), (.op (.load none (.t 35)))⟩, ⟨(some 37), (some (30, true)), (.op (.ibin .eql (.t 33) (.t 36)))⟩, ⟨(some 38), none, (.op (.pick (.t 30) (.t 37) (.c (.bool false))))⟩, ⟨(some 39), none, (.op (.mv (.t 38)))⟩, ⟨(some 40), (some (39, true)), (.op (.fld 0 (.t 2)))⟩, ⟨(some 41), (some (39, true)), (.op (.fld 4 (.t 40)))⟩, ⟨(some 42), (some (39, true)), (.op (.load none (.t 41)))⟩, ⟨(some 43), (some (39, true)), (.op (.fld 0 (.t 3)))⟩, ⟨(some 44), (some (39, true)), (.op (.fld 4 (.t 43)))⟩, ⟨(some 45), (some (39, true)), (.op (.load none (.t 44)))⟩, ⟨(some 46), (some (39, true)), (.op (.ibin .eql (.t 42) (.t 45)))⟩, ⟨(some 47), none, (.op (.pick (.t 39) (.t 46) (.c (.bool false))))⟩, ⟨(some 48), none, (.op (.mv (.t 47)))⟩, ⟨(some 49), (some (48, true)), (.op (.fld 5 (.t 2)))⟩, ⟨(some 50), (some (48, true)), (.op (.load none (.t 49)))⟩, ⟨(some 51), (some (48, true)), (.op (.fld 5 (.t 3)))⟩, ⟨(some 52), (some (48, true)), (.op (.load none (.t 51)))⟩, ⟨(some 53), (some (48, true)), (.call (.c (.fn 65 [])) [(.t 50), (.t 52)])⟩, ⟨(some 54), none, (.op (.pick (.t 48) (.t 53) (.c (.bool false))))⟩, ⟨(some 55), none, (.op (.mv (.t 54)))⟩, ⟨(some 56), (some (55, true)), (.op (.fld 6 (.t 2)))⟩, ⟨(some 57), (some (55, true)), (.op (.load none (.t 56)))⟩, ⟨(some 58), (some (55, true)), (.op (.fld 6 (.t 3)))⟩, ⟨(some 59), (some (55, true)), (.op (.load none (.t 58)))⟩, ⟨(some 60), (some (55, true)), (.op (.ibin .eql (.t 57) (.t 59)))⟩, ⟨(some 61), none, (.op (.pick (.t 55) (.t 60) (.c (.bool false))))⟩, ⟨(some 4), none, (.op (.mv (.t 61)))⟩]
def same6_c : AC := (.seq (.reg same6_r0) (.seq (.reg same6_r1) .ret))
def same6_res : List ARes := [(.tmp 4)]
set_option maxRecDepth 100000 in
theorem same6_get : getF Try.prog 44 44000 [] = some ("gavotte/gavottelaw6.same", 62, same6_c, same6_res) := by kernel_rfl
def awake6_r0 : List AI := [⟨(some 0), none, (.op (.mv (.c (.bool false))))⟩]
def awake6_r1 : List AI := [⟨(some 6), none, (.op (.build [(.int .i64 0), (.int .i64 0)] [(0, (1, (.c (.int .i64 5))))]))⟩, ⟨(some 7), none, (.op (.build [(.int .i64 0), (.int .i64 0)] [(0, (1, (.c (.int .i64 1)))), (1, (1, (.c (.int .i64 2))))]))⟩, ⟨(some 8), none, (.op (.build [(.int .i64 0), (.int .i64 0)] [(0, (1, (.c (.int .i64 11))))]))⟩, ⟨(some 9), none, (.op (.build [(.int .i64 0), (.int .i64 0)] [(0, (1, (.c (.int .i64 6)))), (1, (1, (.c (.int .i64 1))))]))⟩, ⟨(some 10), none, (.op (.build [(.int .i64 0), (.int .i64 0)] [(0, (1, (.c (.int .i64 8))))]))⟩, ⟨(some 11), none, (.op (.build [(.int .i64 0), (.int .i64 0)] [(0, (1, (.c (.int .i64 22))))]))⟩, ⟨(some 12), none, (.op (.build [(.int .i64 0), (.int .i64 0)] [(0, (1, (.c (.int .i64 23))))]))⟩, ⟨(some 13), none, (.op (.bsl 41013 2 35 7 (.agg [(.int .i64 0), (.int .i64 0)]) [(0, (.t 6)), (1, (.t 7)), (2, (.t 8)), (3, (.t 9)), (4, (.t 10)), (5, (.t 11)), (6, (.t 12))]))⟩, ⟨(some 14), none, (.call (.c (.fn 47 [])) [(.c (.int .i64 10)), (.t 13)])⟩, ⟨(some 1), none, (.op (.new 41001 4 (.agg [.nils, .nils, .nils, (.int .i64 0)])))⟩, ⟨none, none, (.op (.store 4 (.t 1) (.t 14)))⟩]
def awake6_r2 : List AI := [⟨(some 15), none, (.op (.load (some 4) (.t 1)))⟩, ⟨(some 16), none, (.call (.c (.fn 48 [])) [(.c (.int .i64 7)), (.c (.int .i64 0))])⟩, ⟨(some 17), none, (.call (.c (.fn 45 [])) [(.t 15), (.c (.int .i64 0)), (.t 16), (.c (.int .i64 0)), (.c .nils)])⟩, ⟨(some 2), none, (.op (.new 41002 7 (.agg [.nils, (.bool false), (.int .i64 0), (.int .i64 0), (.int .i64 0), .nils, (.int .i64 0)])))⟩, ⟨none, none, (.op (.store 7 (.t 2) (.t 17)))⟩]
def awake6_p2 : List (List Nat) := [[], [], [0, 1], [], [3, 2, 0, 1]]
def awake6_r3 : List AI := [⟨(some 18), none, (.op (.build [(.int .i64 0), (.int .i64 0)] [(0, (1, (.c (.int .i64 20))))]))⟩, ⟨(some 19), none, (.op (.bsl 41019 2 35 1 (.agg [(.int .i64 0), (.int .i64 0)]) [(0, (.t 18))]))⟩, ⟨(some 20), none, (.call (.c (.fn 47 [])) [(.c (.int .i64 10)), (.t 19)])⟩, ⟨(some 21), none, (.call (.c (.fn 48 [])) [(.c (.int .i64 1)), (.c (.int .i64 2))])⟩, ⟨(some 22), none, (.call (.c (.fn 45 [])) [(.t 20), (.c (.int .i64 0)), (.t 21), (.c (.int .i64 0)), (.c .nils)])⟩, ⟨(some 3), none, (.op (.new 41003 7 (.agg [.nils, (.bool false), (.int .i64 0), (.int .i64 0), (.int .i64 0), .nils, (.int .i64 0)])))⟩, ⟨none, none, (.op (.store 7 (.t 3) (.t 22)))⟩]
def awake6_r4 : List AI := [⟨(some 23), none, (.op (.build [(.int .i64 0), (.int .i64 0)] [(0, (1, (.c (.int .i64 1))))]))⟩, ⟨(some 24), none, (.op (.build [(.int .i64 0), (.int .i64 0)] [(0, (1, (.c (.int .i64 1))))]))⟩, ⟨(some 25), none, (.op (.build [(.int .i64 0), (.int .i64 0)] [(0, (1, (.c (.int .i64 12))))]))⟩, ⟨(some 26), none, (.op (.bsl 41026 2 35 3 (.agg [(.int .i64 0), (.int .i64 0)]) [(0, (.t 23)), (1, (.t 24)), (2, (.t 25))]))⟩, ⟨(some 27), none, (.call (.c (.fn 47 [])) [(.c (.int .i64 10)), (.t 26)])⟩, ⟨(some 28), none, (.call (.c (.fn 48 [])) [(.c (.int .i64 1)), (.c (.int .i64 2))])⟩, ⟨(some 29), none, (.call (.c (.fn 45 [])) [(.t 27), (.c (.int .i64 0)), (.t 28), (.c (.int .i64 0)), (.c .nils)])⟩, ⟨(some 4), none, (.op (.new 41004 7 (.agg [.nils, (.bool false), (.int .i64 0), (.int .i64 0), (.int .i64 0), .nils, (.int .i64 0)])))⟩, ⟨none, none, (.op (.store 7 (.t 4) (.t 29)))⟩]
def awake6_r5 : List AI := [⟨(some 30), none, (.op (.build [(.int .i64 0), (.int .i64 0)] [(0, (1, (.c (.int .i64 1)))), (1, (1, (.c (.int .i64 2))))]))⟩, ⟨(some 31), none, (.op (.build [(.int .i64 0), (.int .i64 0)] [(0, (1, (.c (.int .i64 22))))]))⟩, ⟨(some 32), none, (.op (.bsl 41032 2 35 2 (.agg [(.int .i64 0), (.int .i64 0)]) [(0, (.t 30)), (1, (.t 31))]))⟩, ⟨(some 33), none, (.call (.c (.fn 47 [])) [(.c (.int .i64 10)), (.t 32)])⟩, ⟨(some 34), none, (.call (.c (.fn 48 [])) [(.c (.int .i64 1)), (.c (.int .i64 2))])⟩, ⟨(some 35), none, (.call (.c (.fn 45 [])) [(.t 33), (.c (.int .i64 0)), (.t 34), (.c (.int .i64 0)), (.c .nils)])⟩, ⟨(some 5), none, (.op (.new 41005 7 (.agg [.nils, (.bool false), (.int .i64 0), (.int .i64 0), (.int .i64 0), .nils, (.int .i64 0)])))⟩, ⟨none, none, (.op (.store 7 (.t 5) (.t 35)))⟩]
def awake6_r6 : List AI := [⟨(some 36), none, (.op (.fld 0 (.t 2)))⟩, ⟨(some 37), none, (.op (.fld 0 (.t 36)))⟩, ⟨(some 38), none, (.op (.load none (.t 37)))⟩, ⟨(some 39), none, (.op (.bsl 41039 1 3 2 (.int .i64 0) [(0, (.c (.int .i64 7))), (1, (.c (.int .i64 14)))]))⟩, ⟨(some 40), none, (.call (.c (.fn 39 [])) [(.t 38), (.t 39)])⟩, ⟨(some 41), none, (.op (.mv (.t 40)))⟩, ⟨(some 42), (some (41, true)), (.op (.fld 0 (.t 2)))⟩, ⟨(some 43), (some (41, true)), (.op (.fld 1 (.t 42)))⟩, ⟨(some 44), (some (41, true)), (.op (.load none (.t 43)))⟩, ⟨(some 45), none, (.op (.pick (.t 41) (.t 44) (.c (.bool false))))⟩, ⟨(some 46), none, (.op (.mv (.t 45)))⟩, ⟨(some 47), (some (46, true)), (.op (.fld 0 (.t 2)))⟩, ⟨(some 48), (some (46, true)), (.op (.fld 3 (.t 47)))⟩, ⟨(some 49), (some (46, true)), (.op (.load none (.t 48)))⟩, ⟨(some 50), (some (46, true)), (.op (.ibin .eql (.t 49) (.c (.int .i64 1))))⟩, ⟨(some 51), none, (.op (.pick (.t 46) (.t 50) (.c (.bool false))))⟩, ⟨(some 52), none, (.op (.mv (.t 51)))⟩, ⟨(some 53), (some (52, true)), (.op (.fld 5 (.t 2)))⟩, ⟨(some 54), (some (52, true)), (.op (.load none (.t 53)))⟩, ⟨(some 55), (some (52, true)), (.op (.len (.t 54)))⟩, ⟨(some 56), (some (52, true)), (.op (.ibin .eql (.t 55) (.c (.int .i64 1))))⟩, ⟨(some 57), none, (.op (.pick (.t 52) (.t 56) (.c (.bool false))))⟩, ⟨(some 58), none, (.op (.mv (.t 57)))⟩, ⟨(some 59), (some (58, true)), (.op (.fld 6 (.t 2)))⟩, ⟨(some 60), (some (58, true)), (.op (.load none (.t 59)))⟩, ⟨(some 61), (some (58, true)), (.op (.ibin .eql (.t 60) (.c (.int .i64 7))))⟩, ⟨(some 62), none, (.op (.pick (.t 58) (.t 61) (.c (.bool false))))⟩, ⟨(some 63), none, (.op (.mv (.t 62)))⟩, ⟨(some 64), (some (63, true)), (.op (.fld 0 (.t 3)))⟩, ⟨(some 65), (some (63, true)), (.op (.fld 2 (.t 64)))⟩, ⟨(some 66), (some (63, true)), (.op (.load none (.t 65)))⟩, ⟨(some 67), (some (63, true)), (.op (.ibin .eql (.t 66) (.c (.int .i64 2))))⟩, ⟨(some 68), none, (.op (.pick (.t 63) (.t 67) (.c (.bool false))))⟩, ⟨(some 69), none, (.op (.mv (.t 68)))⟩, ⟨(some 70), (some (69, true)), (.op (.fld 6 (.t 3)))⟩, ⟨(some 71), (some (69, true)), (.op (.load none (.t 70)))⟩, ⟨(some 72), (some (69, true)), (.op (.ibin .eql (.t 71) (.c (.int .i64 10))))⟩, ⟨(some 73), none, (.op (.pick (.t 69) (.t 72) (.c (.bool false))))⟩, ⟨(some 74), none, (.op (.mv (.t 73)))⟩, ⟨(some 75), (some (74, true)), (.op (.fld 0 (.t 4)))⟩, ⟨(some 76), (some (74, true)), (.op (.fld 2 (.t 75)))⟩, ⟨(some 77), (some (74, true)), (.op (.load none (.t 76)))⟩, ⟨(some 78), (some (74, true)), (.op (.ibin .eql (.t 77) (.c (.int .i64 3))))⟩, ⟨(some 79), none, (.op (.pick (.t 74) (.t 78) (.c (.bool false))))⟩, ⟨(some 80), none, (.op (.mv (.t 79)))⟩, ⟨(some 81), (some (80, true)), (.op (.fld 6 (.t 4)))⟩, ⟨(some 82), (some (80, true)), (.op (.load none (.t 81)))⟩, ⟨(some 83), (some (80, true)), (.op (.ibin .eql (.t 82) (.c (.int .i64 3))))⟩, ⟨(some 84), none, (.op (.pick (.t 80) (.t 83) (.c (.bool false))))⟩, ⟨(some 85), none, (.op (.mv (.t 84)))⟩, ⟨(some 86), (some (85, true)), (.op (.fld 0 (.t 5)))⟩, ⟨(some 87), (some (85, true)), (.op (.fld 2 (.t 86)))⟩, ⟨(some 88), (some (85, true)), (.op (.load none (.t 87)))⟩, ⟨(some 89), (some (85, true)), (.op (.ibin .eql (.t 88) (.c (.int .i64 4))))⟩, ⟨(some 90), none, (.op (.pick (.t 85) (.t 89) (.c (.bool false))))⟩, ⟨(some 91), none, (.op (.mv (.t 90)))⟩, ⟨(some 92), (some (91, true)), (.op (.fld 5 (.t 5)))⟩, ⟨(some 93), (some (91, true)), (.op (.load none (.t 92)))⟩, ⟨(some 94), (some (91, true)), (.op (.len (.t 93)))⟩, ⟨(some 95), (some (91, true)), (.op (.ibin .eql (.t 94) (.c (.int .i64 0))))⟩, ⟨(some 96), none, (.op (.pick (.t 91) (.t 95) (.c (.bool false))))⟩, ⟨(some 97), none, (.op (.mv (.t 96)))⟩, ⟨(some 98), (some (97, true)), (.op (.load (some 4) (.t 1)))⟩, ⟨(some 99), (some (97, true)), (.call (.c (.fn 48 [])) [(.c (.int .i64 0)), (.c (.int .i64 0))])⟩, ⟨(some 100), (some (97, true)), (.call (.c (.fn 42 [])) [(.t 98), (.c (.int .i64 2)), (.t 99), (.c (.int .i64 0)), (.c .nils)])⟩, ⟨(some 101), (some (97, true)), (.op (.not (.t 100)))⟩, ⟨(some 102), none, (.op (.pick (.t 97) (.t 101) (.c (.bool false))))⟩, ⟨(some 103), none, (.op (.mv (.t 102)))⟩, ⟨(some 104), (some (103, true)), (.op (.load (some 4) (.t 1)))⟩, ⟨(some 105), (some (103, true)), (.call (.c (.fn 48 [])) [(.c (.int .i64 0)), (.c (.int .i64 0))])⟩, ⟨(some 106), (some (103, true)), (.call (.c (.fn 42 [])) [(.t 104), (.c (.int .i64 0)), (.t 105), (.c (.int .i64 0)), (.c .nils)])⟩, ⟨(some 107), none, (.op (.pick (.t 103) (.t 106) (.c (.bool false))))⟩, ⟨(some 0), none, (.op (.mv (.t 107)))⟩]
def awake6_p6 : List (List Nat) := [[], [0], [1, 0], [], [2, 3, 1, 0], [4, 2, 3, 1, 0], [5, 4, 2, 3, 1, 0], [6, 5, 4, 2, 3, 1, 0], [7, 5, 6, 4, 2, 3, 1, 0], [5, 8, 4, 2, 3, 1, 0, 7, 6], [9, 5, 8, 4, 2, 3, 1, 0, 7, 6], [10, 9, 5, 8, 4, 2, 3, 1, 0, 7, 6], [11, 10, 9, 5, 8, 4, 2, 3, 1, 0, 7, 6], [12, 10, 11, 9, 5, 8, 4, 2, 3, 1, 0, 7, 6], [13, 10, 12, 11, 9, 5, 8, 4, 2, 3, 1, 0, 7, 6], [10, 14, 9, 5, 8, 4, 2, 3, 1, 0, 7, 6, 13, 12, 11], [15, 10, 14, 9, 5, 8, 4, 2, 3, 1, 0, 7, 6, 13, 12, 11], [16, 15, 10, 14, 9, 5, 8, 4, 2, 3, 1, 0, 7, 6, 13, 12, 11], [17, 16, 15, 10, 14, 9, 5, 8, 4, 2, 3, 1, 0, 7, 6, 13, 12, 11], [18, 16, 17, 15, 10, 14, 9, 5, 8, 4, 2, 3, 1, 0, 7, 6, 13, 12, 11], [19, 16, 18, 17, 15, 10, 14, 9, 5, 8, 4, 2, 3, 1, 0, 7, 6, 13, 12, 11], [16, 20, 15, 10, 14, 9, 5, 8, 4, 2, 3, 1, 0, 7, 6, 13, 12, 11, 19, 18, 17], [21, 16, 20, 15, 10, 14, 9, 5, 8, 4, 2, 3, 1, 0, 7, 6, 13, 12, 11, 19, 18, 17], [22, 21, 16, 20, 15, 10, 14, 9, 5, 8, 4, 2, 3, 1, 0, 7, 6, 13, 12, 11, 19, 18, 17], [23, 22, 21, 16, 20, 15, 10, 14, 9, 5, 8, 4, 2, 3, 1, 0, 7, 6, 13, 12, 11, 19, 18, 17], [24, 22, 23, 21, 16, 20, 15, 10, 14, 9, 5, 8, 4, 2, 3, 1, 0, 7, 6, 13, 12, 11, 19, 18, 17], [22, 25, 21, 16, 20, 15, 10, 14, 9, 5, 8, 4, 2, 3, 1, 0, 7, 6, 13, 12, 11, 19, 18, 17, 24, 23], [26, 22, 25, 21, 16, 20, 15, 10, 14, 9, 5, 8, 4, 2, 3, 1, 0, 7, 6, 13, 12, 11, 19, 18, 17, 24, 23], [27, 26, 22, 25, 21, 16, 20, 15, 10, 14, 9, 5, 8, 4, 2, 3, 1, 0, 7, 6, 13, 12, 11, 19, 18, 17, 24, 23], [28, 27, 26, 22, 25, 21, 16, 20, 15, 10, 14, 9, 5, 8, 4, 2, 3, 1, 0, 7, 6, 13, 12, 11, 19, 18, 17, 24, 23], [29, 27, 28, 26, 22, 25, 21, 16, 20, 15, 10, 14, 9, 5, 8, 4, 2, 3, 1, 0, 7, 6, 13, 12, 11, 19, 18, 17, 24, 23], [30, 27, 29, 28, 26, 22, 25, 21, 16, 20, 15, 10, 14, 9, 5, 8, 4, 2, 3, 1, 0, 7, 6, 13, 12, 11, 19, 18, 17, 24, 23], [27, 31, 26, 22, 25, 21, 16, 20, 15, 10, 14, 9, 5, 8, 4, 2, 3, 1, 0, 7, 6, 13, 12, 11, 19, 18, 17, 24, 23, 30, 29, 28], [32, 27, 31, 26, 22, 25, 21, 16, 20, 15, 10, 14, 9, 5, 8, 4, 2, 3, 1, 0, 7, 6, 13, 12, 11, 19, 18, 17, 24, 23, 30, 29, 28], [33, 32, 27, 31, 26, 22, 25, 21, 16, 20, 15, 10, 14, 9, 5, 8, 4, 2, 3, 1, 0, 7, 6, 13, 12, 11, 19, 18, 17, 24, 23, 30, 29, 28], [34, 33, 32, 27, 31, 26, 22, 25, 21, 16, 20, 15, 10, 14, 9, 5, 8, 4, 2, 3, 1, 0, 7, 6, 13, 12, 11, 19, 18, 17, 24, 23, 30, 29, 28], [35, 33, 34, 32, 27, 31, 26, 22, 25, 21, 16, 20, 15, 10, 14, 9, 5, 8, 4, 2, 3, 1, 0, 7, 6, 13, 12, 11, 19, 18, 17, 24, 23, 30, 29, 28], [33, 36, 32, 27, 31, 26, 22, 25, 21, 16, 20, 15, 10, 14, 9, 5, 8, 4, 2, 3, 1, 0, 7, 6, 13, 12, 11, 19, 18, 17, 24, 23, 30, 29, 28, 35, 34], [37, 33, 36, 32, 27, 31, 26, 22, 25, 21, 16, 20, 15, 10, 14, 9, 5, 8, 4, 2, 3, 1, 0, 7, 6, 13, 12, 11, 19, 18, 17, 24, 23, 30, 29, 28, 35, 34], [38, 37, 33, 36, 32, 27, 31, 26, 22, 25, 21, 16, 20, 15, 10, 14, 9, 5, 8, 4, 2, 3, 1, 0, 7, 6, 13, 12, 11, 19, 18, 17, 24, 23, 30, 29, 28, 35, 34], [39, 38, 37, 33, 36, 32, 27, 31, 26, 22, 25, 21, 16, 20, 15, 10, 14, 9, 5, 8, 4, 2, 3, 1, 0, 7, 6, 13, 12, 11, 19, 18, 17, 24, 23, 30, 29, 28, 35, 34], [40, 38, 39, 37, 33, 36, 32, 27, 31, 26, 22, 25, 21, 16, 20, 15, 10, 14, 9, 5, 8, 4, 2, 3, 1, 0, 7, 6, 13, 12, 11, 19, 18, 17, 24, 23, 30, 29, 28, 35, 34], [41, 38, 40, 39, 37, 33, 36, 32, 27, 31, 26, 22, 25, 21, 16, 20, 15, 10, 14, 9, 5, 8, 4, 2, 3, 1, 0, 7, 6, 13, 12, 11, 19, 18, 17, 24, 23, 30, 29, 28, 35, 34], [38, 42, 37, 33, 36, 32, 27, 31, 26, 22, 25, 21, 16, 20, 15, 10, 14, 9, 5, 8, 4, 2, 3, 1, 0, 7, 6, 13, 12, 11, 19, 18, 17, 24, 23, 30, 29, 28, 35, 34, 41, 40, 39], [43, 38, 42, 37, 33, 36, 32, 27, 31, 26, 22, 25, 21, 16, 20, 15, 10, 14, 9, 5, 8, 4, 2, 3, 1, 0, 7, 6, 13, 12, 11, 19, 18, 17, 24, 23, 30, 29, 28, 35, 34, 41, 40, 39], [44, 43, 38, 42, 37, 33, 36, 32, 27, 31, 26, 22, 25, 21, 16, 20, 15, 10, 14, 9, 5, 8, 4, 2, 3, 1, 0, 7, 6, 13, 12, 11, 19, 18, 17, 24, 23, 30, 29, 28, 35, 34, 41, 40, 39], [45, 44, 43, 38, 42, 37, 33, 36, 32, 27, 31, 26, 22, 25, 21, 16, 20, 15, 10, 14, 9, 5, 8, 4, 2, 3, 1, 0, 7, 6, 13, 12, 11, 19, 18, 17, 24, 23, 30, 29, 28, 35, 34, 41, 40, 39], [46, 44, 45, 43, 38, 42, 37, 33, 36, 32, 27, 31, 26, 22, 25, 21, 16, 20, 15, 10, 14, 9, 5, 8, 4, 2, 3, 1, 0, 7, 6, 13, 12, 11, 19, 18, 17, 24, 23, 30, 29, 28, 35, 34, 41, 40, 39], [44, 47, 43, 38, 42, 37, 33, 36, 32, 27, 31, 26, 22, 25, 21, 16, 20, 15, 10, 14, 9, 5, 8, 4, 2, 3, 1, 0, 7, 6, 13, 12, 11, 19, 18, 17, 24, 23, 30, 29, 28, 35, 34, 41, 40, 39, 46, 45], [48, 44, 47, 43, 38, 42, 37, 33, 36, 32, 27, 31, 26, 22, 25, 21, 16, 20, 15, 10, 14, 9, 5, 8, 4, 2, 3, 1, 0, 7, 6, 13, 12, 11, 19, 18, 17, 24, 23, 30, 29, 28, 35, 34, 41, 40, 39, 46, 45], [49, 48, 44, 47, 43, 38, 42, 37, 33, 36, 32, 27, 31, 26, 22, 25, 21, 16, 20, 15, 10, 14, 9, 5, 8, 4, 2, 3, 1, 0, 7, 6, 13, 12, 11, 19, 18, 17, 24, 23, 30, 29, 28, 35, 34, 41, 40, 39, 46, 45], [50, 49, 48, 44, 47, 43, 38, 42, 37, 33, 36, 32, 27, 31, 26, 22, 25, 21, 16, 20, 15, 10, 14, 9, 5, 8, 4, 2, 3, 1, 0, 7, 6, 13, 12, 11, 19, 18, 17, 24, 23, 30, 29, 28, 35, 34, 41, 40, 39, 46, 45], [51, 49, 50, 48, 44, 47, 43, 38, 42, 37, 33, 36, 32, 27, 31, 26, 22, 25, 21, 16, 20, 15, 10, 14, 9, 5, 8, 4, 2, 3, 1, 0, 7, 6, 13, 12, 11, 19, 18, 17, 24, 23, 30, 29, 28, 35, 34, 41, 40, 39, 46, 45], [52, 49, 51, 50, 48, 44, 47, 43, 38, 42, 37, 33, 36, 32, 27, 31, 26, 22, 25, 21, 16, 20, 15, 10, 14, 9, 5, 8, 4, 2, 3, 1, 0, 7, 6, 13, 12, 11, 19, 18, 17, 24, 23, 30, 29, 28, 35, 34, 41, 40, 39, 46, 45], [49, 53, 48, 44, 47, 43, 38, 42, 37, 33, 36, 32, 27, 31, 26, 22, 25, 21, 16, 20, 15, 10, 14, 9, 5, 8, 4, 2, 3, 1, 0, 7, 6, 13, 12, 11, 19, 18, 17, 24, 23, 30, 29, 28, 35, 34, 41, 40, 39, 46, 45, 52, 51, 50], [54, 49, 53, 48, 44, 47, 43, 38, 42, 37, 33, 36, 32, 27, 31, 26, 22, 25, 21, 16, 20, 15, 10, 14, 9, 5, 8, 4, 2, 3, 1, 0, 7, 6, 13, 12, 11, 19, 18, 17, 24, 23, 30, 29, 28, 35, 34, 41, 40, 39, 46, 45, 52, 51, 50], [55, 54, 49, 53, 48, 44, 47, 43, 38, 42, 37, 33, 36, 32, 27, 31, 26, 22, 25, 21, 16, 20, 15, 10, 14, 9, 5, 8, 4, 2, 3, 1, 0, 7, 6, 13, 12, 11, 19, 18, 17, 24, 23, 30, 29, 28, 35, 34, 41, 40, 39, 46, 45, 52, 51, 50], [56, 55, 54, 49, 53, 48, 44, 47, 43, 38, 42, 37, 33, 36, 32, 27, 31, 26, 22, 25, 21, 16, 20, 15, 10, 14, 9, 5, 8, 4, 2, 3, 1, 0, 7, 6, 13, 12, 11, 19, 18, 17, 24, 23, 30, 29, 28, 35, 34, 41, 40, 39, 46, 45, 52, 51, 50], [57, 55, 56, 54, 49, 53, 48, 44, 47, 43, 38, 42, 37, 33, 36, 32, 27, 31, 26, 22, 25, 21, 16, 20, 15, 10, 14, 9, 5, 8, 4, 2, 3, 1, 0, 7, 6, 13, 12, 11, 19, 18, 17, 24, 23, 30, 29, 28, 35, 34, 41, 40, 39, 46, 45, 52, 51, 50], [58, 55, 57, 56, 54, 49, 53, 48, 44, 47, 43, 38, 42, 37, 33, 36, 32, 27, 31, 26, 22, 25, 21, 16, 20, 15, 10, 14, 9, 5, 8, 4, 2, 3, 1, 0, 7, 6, 13, 12, 11, 19, 18, 17, 24, 23, 30, 29, 28, 35, 34, 41, 40, 39, 46, 45, 52, 51, 50], [55, 59, 54, 49, 53, 48, 44, 47, 43, 38, 42, 37, 33, 36, 32, 27, 31, 26, 22, 25, 21, 16, 20, 15, 10, 14, 9, 5, 8, 4, 2, 3, 1, 0, 7, 6, 13, 12, 11, 19, 18, 17, 24, 23, 30, 29, 28, 35, 34, 41, 40, 39, 46, 45, 52, 51, 50, 58, 57, 56], [60, 55, 59, 54, 49, 53, 48, 44, 47, 43, 38, 42, 37, 33, 36, 32, 27, 31, 26, 22, 25, 21, 16, 20, 15, 10, 14, 9, 5, 8, 4, 2, 3, 1, 0, 7, 6, 13, 12, 11, 19, 18, 17, 24, 23, 30, 29, 28, 35, 34, 41, 40, 39, 46, 45, 52, 51, 50, 58, 57, 56], [61, 60, 55, 59, 54, 49, 53, 48, 44, 47, 43, 38, 42, 37, 33, 36, 32, 27, 31, 26, 22, 25, 21, 16, 20, 15, 10, 14, 9, 5, 8, 4, 2, 3, 1, 0, 7, 6, 13, 12, 11, 19, 18, 17, 24, 23, 30, 29, 28, 35, 34, 41, 40, 39, 46, 45, 52, 51, 50, 58, 57, 56], [61, 60, 55, 59, 54, 49, 53, 48, 44, 47, 43, 38, 42, 37, 33, 36, 32, 27, 31, 26, 22, 25, 21, 16, 20, 15, 10, 14, 9, 5, 8, 4, 2, 3, 1, 0, 7, 6, 13, 12, 11, 19, 18, 17, 24, 23, 30, 29, 28, 35, 34, 41, 40, 39, 46, 45, 52, 51, 50, 58, 57, 56], [62, 63, 61, 60, 55, 59, 54, 49, 53, 48, 44, 47, 43, 38, 42, 37, 33, 36, 32, 27, 31, 26, 22, 25, 21, 16, 20, 15, 10, 14, 9, 5, 8, 4, 2, 3, 1, 0, 7, 6, 13, 12, 11, 19, 18, 17, 24, 23, 30, 29, 28, 35, 34, 41, 40, 39, 46, 45, 52, 51, 50, 58, 57, 56], [64, 61, 62, 63, 60, 55, 59, 54, 49, 53, 48, 44, 47, 43, 38, 42, 37, 33, 36, 32, 27, 31, 26, 22, 25, 21, 16, 20, 15, 10, 14, 9, 5, 8, 4, 2, 3, 1, 0, 7, 6, 13, 12, 11, 19, 18, 17, 24, 23, 30, 29, 28, 35, 34, 41, 40, 39, 46, 45, 52, 51, 50, 58, 57, 56], [61, 65, 60, 55, 59, 54, 49, 53, 48, 44, 47, 43, 38, 42, 37, 33, 36, 32, 27, 31, 26, 22, 25, 21, 16, 20, 15, 10, 14, 9, 5, 8, 4, 2, 3, 1, 0, 7, 6, 13, 12, 11, 19, 18, 17, 24, 23, 30, 29, 28, 35, 34, 41, 40, 39, 46, 45, 52, 51, 50, 58, 57, 56, 64, 62, 63], [66, 64, 61, 65, 60, 55, 59, 54, 49, 53, 48, 44, 47, 43, 38, 42, 37, 33, 36, 32, 27, 31, 26, 22, 25, 21, 16, 20, 15, 10, 14, 9, 5, 8, 4, 2, 3, 1, 0, 7, 6, 13, 12, 11, 19, 18, 17, 24, 23, 30, 29, 28, 35, 34, 41, 40, 39, 46, 45, 52, 51, 50, 58, 57, 56, 62, 63], [67, 66, 64, 61, 65, 60, 55, 59, 54, 49, 53, 48, 44, 47, 43, 38, 42, 37, 33, 36, 32, 27, 31, 26, 22, 25, 21, 16, 20, 15, 10, 14, 9, 5, 8, 4, 2, 3, 1, 0, 7, 6, 13, 12, 11, 19, 18, 17, 24, 23, 30, 29, 28, 35, 34, 41, 40, 39, 46, 45, 52, 51, 50, 58, 57, 56, 62, 63], [67, 66, 64, 61, 65, 60, 55, 59, 54, 49, 53, 48, 44, 47, 43, 38, 42, 37, 33, 36, 32, 27, 31, 26, 22, 25, 21, 16, 20, 15, 10, 14, 9, 5, 8, 4, 2, 3, 1, 0, 7, 6, 13, 12, 11, 19, 18, 17, 24, 23, 30, 29, 28, 35, 34, 41, 40, 39, 46, 45, 52, 51, 50, 58, 57, 56, 62, 63], [68, 69, 67, 66, 64, 61, 65, 60, 55, 59, 54, 49, 53, 48, 44, 47, 43, 38, 42, 37, 33, 36, 32, 27, 31, 26, 22, 25, 21, 16, 20, 15, 10, 14, 9, 5, 8, 4, 2, 3, 1, 0, 7, 6, 13, 12, 11, 19, 18, 17, 24, 23, 30, 29, 28, 35, 34, 41, 40, 39, 46, 45, 52, 51, 50, 58, 57, 56, 62, 63], [67, 70, 66, 64, 61, 65, 60, 55, 59, 54, 49, 53, 48, 44, 47, 43, 38, 42, 37, 33, 36, 32, 27, 31, 26, 22, 25, 21, 16, 20, 15, 10, 14, 9, 5, 8, 4, 2, 3, 1, 0, 7, 6, 13, 12, 11, 19, 18, 17, 24, 23, 30, 29, 28, 35, 34, 41, 40, 39, 46, 45, 52, 51, 50, 58, 57, 56, 62, 63, 68, 69], [71, 70, 0, 1, 2, 3, 4, 5, 6, 7, 8, 9, 10, 11, 12, 13, 14, 15, 16, 17, 18, 19, 20, 21, 22, 23, 24, 25, 26, 27, 28, 29, 30, 31, 32, 33, 34, 35, 36, 37, 38, 39, 40, 41, 42, 43, 44, 45, 46, 47, 48, 49, 50, 51, 52, 53, 54, 55, 56, 57, 58, 59, 60, 61, 62, 63, 64, 65, 66, 67, 68, 69]]
def awake6_c : AC := (.seq (.reg awake6_r0) (.seq (.reg awake6_r1) (.seq (.regd awake6_r2 awake6_p2) (.seq (.reg awake6_r3) (.seq (.reg awake6_r4) (.seq (.reg awake6_r5) (.seq (.regd awake6_r6 awake6_p6) .ret)))))))
def awake6_res : List ARes := [(.tmp 0)]
set_option maxRecDepth 100000 in
theorem awake6_get : getF Try.prog 41 41000 [] = some ("gavotte/gavottelaw6.awake", 108, awake6_c, awake6_res) := by kernel_rfl
attribute [simp] same6_r0 same6_r1 same6_res awake6_r0 awake6_r1 awake6_r2 awake6_p2 awake6_r3 awake6_r4 awake6_r5 awake6_r6 awake6_p6 awake6_res

theorem same6_pc (a b : Res) (h1 : a.l.regs.length < 4611686018427387904) (h2 : a.notes.length < 4611686018427387904) (h3 : ∀ n ∈ a.notes, n.args.length < 4611686018427387904) : PC Try.prog 44 [a.av, b.av] (.bool (decide (a = b))) := by
  refine pc_of_get same6_get (by simp) _ (by simp) _ ?_
  unfold same6_c
  obtain ⟨⟨r1, a1, d1, s1, o1⟩, n1, t1⟩ := a
  obtain ⟨⟨r2, a2, d2, s2, o2⟩, n2, t2⟩ := b
  simp only at h1 h2 h3
  simp [Res.av]
  refine call (aints_pc r1 r2 h1) (by simp) ?_
  by_cases e1 : r1 = r2
  rotate_left
  · simp [e1]
  by_cases e2 : a1 = a2
  rotate_left
  · cases a1 <;> cases a2 <;> simp at e2 <;> simp [e1]
  by_cases e3 : d1 = d2
  rotate_left
  · simp [e1, e2, e3]
  by_cases e4 : s1 = s2
  rotate_left
  · simp [e1, e2, e3, e4]
  by_cases e5 : o1 = o2
  rotate_left
  · simp [e1, e2, e3, e4, e5]
  simp [e1, e2, e3, e4, e5]
  refine call (rnotes_pc n1 n2 h3 h2) (by simp) ?_
  by_cases e6 : n1 = n2
  rotate_left
  · simp [e6]
  subst e1 e2 e3 e4 e5 e6
  by_cases e7 : t1 = t2 <;> simp [e7]
/-- A run of a program of one handler, as the laws call it. -/
theorem runOne_pc (fuel : Int) (code : List Ins) (who a b : Int) (arm : Bool) : PC Try.prog 45 [(oneP6 fuel code).av, iv who, Lcl.av ⟨[a, b], arm, 0, 0, 0⟩, iv 0, ints []] (runR (oneP6 fuel code) who ⟨[a, b], arm, 0, 0, 0⟩ 0 []).av :=
  run_pc _ _ _ _ _
theorem awk_may : mayV (oneP6 10 awkA) 0 ⟨[0, 0], false, 0, 0, 0⟩ 0 [] ∧ ¬ mayV (oneP6 10 awkA) 2 ⟨[0, 0], false, 0, 0, 0⟩ 0 [] := by decide +kernel
set_option maxHeartbeats 4000000 in
set_option maxRecDepth 100000 in
theorem awake6_pc : PC Try.prog 41 [] (.bool true) := by
  refine pc_of_get awake6_get (by simp) _ (by simp) _ ?_
  unfold awake6_c
  simp
  refine call (one6_pc 10 awkA) (by simp [awkA]) ?_
  simp [oneA6]
  refine calld (local6_pc 7 0) (by simp) ?_
  simp [Lcl.av]
  refine calldC (run_pc (oneP6 10 awkA) 0 ⟨[7, 0], false, 0, 0, 0⟩ 0 []) 2 (by simp [oneP6, Prg.av, Lcl.av, dco, elemR, coL, co1, ints]) ?_
  rw [awk_run]
  simp [Res.av, Lcl.av]
  refine call (one6_pc 10 [⟨20, 0⟩]) (by simp) ?_
  simp [oneA6]
  refine call (local6_pc 1 2) (by simp) ?_
  simp [Lcl.av]
  refine callC (run_pc (oneP6 10 [⟨20, 0⟩]) 0 ⟨[1, 2], false, 0, 0, 0⟩ 0 []) 2 (by simp [oneP6, Prg.av, Lcl.av, dco, elemR, coL, co1, ints]) ?_
  rw [awk_run2]
  simp [Res.av, Lcl.av]
  refine call (one6_pc 10 [⟨1, 0⟩, ⟨1, 0⟩, ⟨12, 0⟩]) (by simp) ?_
  simp [oneA6]
  refine call (local6_pc 1 2) (by simp) ?_
  simp [Lcl.av]
  refine callC (run_pc (oneP6 10 [⟨1, 0⟩, ⟨1, 0⟩, ⟨12, 0⟩]) 0 ⟨[1, 2], false, 0, 0, 0⟩ 0 []) 2 (by simp [oneP6, Prg.av, Lcl.av, dco, elemR, coL, co1, ints]) ?_
  rw [awk_run3]
  simp [Res.av, Lcl.av]
  refine call (one6_pc 10 [⟨1, 2⟩, ⟨22, 0⟩]) (by simp) ?_
  simp [oneA6]
  refine call (local6_pc 1 2) (by simp) ?_
  simp [Lcl.av]
  refine callC (run_pc (oneP6 10 [⟨1, 2⟩, ⟨22, 0⟩]) 0 ⟨[1, 2], false, 0, 0, 0⟩ 0 []) 2 (by simp [oneP6, Prg.av, Lcl.av, dco, elemR, coL, co1, ints]) ?_
  rw [awk_run4]
  simp [Res.av, Lcl.av]
  refine calld (aints_pc [7, 14] [7, 14] (by simp)) (by simp) ?_
  simp (maxSteps := 3000000)
  refine calld (local6_pc 0 0) (by simp) ?_
  simp (maxSteps := 3000000) [Lcl.av]
  refine calldC (may_pc (oneP6 10 awkA) 2 ⟨[0, 0], false, 0, 0, 0⟩ 0 []) 2 (by simp [oneP6, Prg.av, Lcl.av, dco, elemR, coL, co1, ints]) ?_
  simp (maxSteps := 3000000) [awk_may.1, awk_may.2]
  refine calld (local6_pc 0 0) (by simp) ?_
  simp (maxSteps := 3000000) [Lcl.av]
  refine calldC (may_pc (oneP6 10 awkA) 0 ⟨[0, 0], false, 0, 0, 0⟩ 0 []) 2 (by simp [oneP6, Prg.av, Lcl.av, dco, elemR, coL, co1, ints]) ?_
  simp (maxSteps := 3000000) [awk_may.1, awk_may.2]

end Go.Gv

/- The law VmRuns answers true. No condition. -/
set_option linter.unusedVariables false
set_option linter.unusedSimpArgs false
namespace Go.Gv
open Go.Proofs

def vruns_r0 : List AI := [⟨(some 5), none, (.op (.box 13005 4 (.t 0)))⟩, ⟨(some 7), none, (.op (.box 13007 5 (.t 2)))⟩, ⟨(some 10), none, (.op (.mv (.c (.bool false))))⟩]
def vruns_r1 : List AI := [⟨(some 11), none, (.op (.load (some 4) (.t 5)))⟩, ⟨(some 12), none, (.call (.c (.fn 24 [])) [(.t 11)])⟩, ⟨(some 13), none, (.op (.not (.t 12)))⟩, ⟨(some 14), none, (.op (.mv (.t 13)))⟩, ⟨(some 15), (some (14, false)), (.op (.fld 0 (.t 7)))⟩, ⟨(some 16), (some (14, false)), (.op (.load none (.t 15)))⟩, ⟨(some 17), (some (14, false)), (.op (.len (.t 16)))⟩, ⟨(some 18), (some (14, false)), (.op (.ibin .gtr (.t 17) (.c (.int .i64 10))))⟩, ⟨(some 19), none, (.op (.pick (.t 14) (.c (.bool true)) (.t 18)))⟩, ⟨(some 20), none, (.op (.mv (.t 19)))⟩, ⟨(some 21), (some (20, false)), (.op (.mv (.t 4)))⟩, ⟨(some 22), (some (20, false)), (.op (.len (.t 21)))⟩, ⟨(some 23), (some (20, false)), (.op (.ibin .gtr (.t 22) (.c (.int .i64 6))))⟩, ⟨(some 24), none, (.op (.pick (.t 20) (.c (.bool true)) (.t 23)))⟩]
def vruns_r2 : List AI := [⟨(some 25), none, (.call (.c (.fn 41 [])) [])⟩, ⟨(some 10), none, (.op (.mv (.t 25)))⟩]
def vruns_r3 : List AI := [⟨(some 26), none, (.op (.load (some 4) (.t 5)))⟩, ⟨(some 27), none, (.op (.mv (.t 1)))⟩, ⟨(some 28), none, (.op (.load (some 5) (.t 7)))⟩, ⟨(some 29), none, (.op (.mv (.t 3)))⟩, ⟨(some 30), none, (.op (.mv (.t 4)))⟩, ⟨(some 31), none, (.call (.c (.fn 42 [])) [(.t 26), (.t 27), (.t 28), (.t 29), (.t 30)])⟩, ⟨(some 32), none, (.op (.load (some 4) (.t 5)))⟩, ⟨(some 33), none, (.op (.mv (.t 1)))⟩, ⟨(some 34), none, (.op (.load (some 5) (.t 7)))⟩, ⟨(some 35), none, (.op (.mv (.t 3)))⟩, ⟨(some 36), none, (.op (.mv (.t 4)))⟩, ⟨(some 37), none, (.call (.c (.fn 43 [])) [(.t 32), (.t 33), (.t 34), (.t 35), (.t 36)])⟩, ⟨(some 38), none, (.op (.eqv false (.t 31) (.t 37)))⟩, ⟨(some 39), none, (.op (.mv (.t 38)))⟩, ⟨(some 40), (some (39, true)), (.op (.load (some 4) (.t 5)))⟩, ⟨(some 41), (some (39, true)), (.op (.mv (.t 1)))⟩, ⟨(some 42), (some (39, true)), (.op (.load (some 5) (.t 7)))⟩, ⟨(some 43), (some (39, true)), (.op (.mv (.t 3)))⟩, ⟨(some 44), (some (39, true)), (.op (.mv (.t 4)))⟩, ⟨(some 45), (some (39, true)), (.call (.c (.fn 45 [])) [(.t 40), (.t 41), (.t 42), (.t 43), (.t 44)])⟩, ⟨(some 46), (some (39, true)), (.op (.load (some 4) (.t 5)))⟩, ⟨(some 47), (some (39, true)), (.op (.mv (.t 1)))⟩, ⟨(some 48), (some (39, true)), (.op (.load (some 5) (.t 7)))⟩, ⟨(some 49), (some (39, true)), (.op (.mv (.t 3)))⟩, ⟨(some 50), (some (39, true)), (.op (.mv (.t 4)))⟩, ⟨(some 51), (some (39, true)), (.call (.c (.fn 46 [])) [(.t 46), (.t 47), (.t 48), (.t 49), (.t 50)])⟩, ⟨(some 52), (some (39, true)), (.call (.c (.fn 44 [])) [(.t 45), (.t 51)])⟩, ⟨(some 53), none, (.op (.pick (.t 39) (.t 52) (.c (.bool false))))⟩, ⟨(some 54), none, (.op (.mv (.t 53)))⟩, ⟨(some 55), (some (54, true)), (.call (.c (.fn 41 [])) [])⟩, ⟨(some 56), none, (.op (.pick (.t 54) (.t 55) (.c (.bool false))))⟩, ⟨(some 10), none, (.op (.mv (.t 56)))⟩]
def vruns_p3 : List (List Nat) := [[], [], [], [], [], [0, 1, 2, 3, 4], [], [], [], [], [], [6, 7, 8, 9, 10, 5, 0, 1, 2, 3, 4], [5, 11, 0, 1, 2, 3, 4, 6, 7, 8, 9, 10], [12, 11, 5, 0, 1, 2, 3, 4, 6, 7, 8, 9, 10], [13, 12, 11, 5, 0, 1, 2, 3, 4, 6, 7, 8, 9, 10], [13, 12, 11, 5, 0, 1, 2, 3, 4, 6, 7, 8, 9, 10], [13, 12, 11, 5, 0, 1, 2, 3, 4, 6, 7, 8, 9, 10], [13, 12, 11, 5, 0, 1, 2, 3, 4, 6, 7, 8, 9, 10], [13, 12, 11, 5, 0, 1, 2, 3, 4, 6, 7, 8, 9, 10], [14, 15, 16, 17, 18, 13, 12, 11, 5, 0, 1, 2, 3, 4, 6, 7, 8, 9, 10], [13, 12, 11, 5, 0, 1, 2, 3, 4, 6, 7, 8, 9, 10], [13, 12, 11, 5, 0, 1, 2, 3, 4, 6, 7, 8, 9, 10], [13, 12, 11, 5, 0, 1, 2, 3, 4, 6, 7, 8, 9, 10], [13, 12, 11, 5, 0, 1, 2, 3, 4, 6, 7, 8, 9, 10], [13, 12, 11, 5, 0, 1, 2, 3, 4, 6, 7, 8, 9, 10], [20, 21, 22, 23, 24, 19, 13, 12, 11, 5, 0, 1, 2, 3, 4, 6, 7, 8, 9, 10, 14, 15, 16, 17, 18], [19, 25, 13, 14, 15, 16, 17, 18, 12, 11, 5, 0, 1, 2, 3, 4, 6, 7, 8, 9, 10, 20, 21, 22, 23, 24], [13, 26, 12, 11, 5, 0, 1, 2, 3, 4, 6, 7, 8, 9, 10, 19, 25, 14, 15, 16, 17, 18, 20, 21, 22, 23, 24], [27, 26, 13, 12, 11, 5, 0, 1, 2, 3, 4, 6, 7, 8, 9, 10, 19, 25, 14, 15, 16, 17, 18, 20, 21, 22, 23, 24], [28, 27, 26, 13, 12, 11, 5, 0, 1, 2, 3, 4, 6, 7, 8, 9, 10, 19, 25, 14, 15, 16, 17, 18, 20, 21, 22, 23, 24], [28, 29, 27, 26, 13, 12, 11, 5, 0, 1, 2, 3, 4, 6, 7, 8, 9, 10, 19, 25, 14, 15, 16, 17, 18, 20, 21, 22, 23, 24], [30, 29, 0, 1, 2, 3, 4, 5, 6, 7, 8, 9, 10, 11, 12, 13, 14, 15, 16, 17, 18, 19, 20, 21, 22, 23, 24, 25, 26, 27, 28]]
def vruns_c : AC := (.seq (.reg vruns_r0) (.seq (.seq (.reg vruns_r1) (.cond (.t 24) (.seq (.reg vruns_r2) .ret) .skip)) (.seq (.regd vruns_r3 vruns_p3) .ret)))
def vruns_res : List ARes := [(.tmp 10)]
set_option maxRecDepth 100000 in
theorem vruns_get : getF Try.prog 13 13000 [] = some ("gavotte/gavottelaw6.VmRuns", 57, vruns_c, vruns_res) := by kernel_rfl
attribute [simp] vruns_r0 vruns_r1 vruns_r2 vruns_r3 vruns_p3 vruns_res

theorem ite_nts {c : Prop} [Decidable c] {a b : Mach × Int} {q : Nt → Prop} (h1 : ∀ n ∈ a.1.notes, q n) (h2 : ∀ n ∈ b.1.notes, q n) : ∀ n ∈ (if c then a else b).1.notes, q n := by
  by_cases h : c
  · rw [if_pos h]; exact h1
  · rw [if_neg h]; exact h2
theorem doV_nts (F : Fx) (i : Ins) (m : Mach) (hl : m.st.length ≤ 900) (h : ∀ n ∈ m.notes, n.args.length ≤ 900) : ∀ n ∈ (doV F i m).1.notes, n.args.length ≤ 900 := by
  unfold doV
  repeat' apply ite_nts
  all_goals first
    | exact h
    | (intro n hn
       simp at hn
       rcases hn with hn | hn
       · exact h n hn
       · subst hn; simp; omega)
theorem runG_end {F : Fx} {code : List Ins} (h : RFix F code) : ∀ (f : Nat) (m : Mach) (s : Int), MI F code m s → s ≤ F.p.fuel → (∀ n ∈ m.notes, n.args.length ≤ 900) → ∀ (m' : Mach) (d t : Int), runG F code f m s = (some m', d, t) → MI F code m' t ∧ t ≤ F.p.fuel ∧ ∀ n ∈ m'.notes, n.args.length ≤ 900
  | 0, _, _, _, _, _, _, _, _, e => by simp [runG] at e
  | f + 1, m, s, hm, hs, hn, m', d, t, e => by
    rw [runG] at e
    by_cases hp : 0 ≤ m.pc ∧ m.pc < code.length
    · have hi : code[m.pc.toNat]? = some (code[m.pc.toNat]'(by omega)) := List.getElem?_eq_getElem (by omega)
      rw [if_pos hp] at e
      by_cases hl : s < F.p.fuel
      · rw [if_pos hl, hi] at e
        simp only at e
        by_cases hz : (doV F (code[m.pc.toNat]'(by omega)) m).2 = 0
        · rw [if_neg (by simp [hz])] at e
          refine runG_end h f _ _ (h.next hm hp hl hi hz) (by omega) (doV_nts F _ m ?_ hn) m' d t e
          have := (h.doOk hm hp hl hi).sl; omega
        · rw [if_pos hz] at e; cases e
      · rw [if_neg hl] at e; cases e
    · rw [if_neg hp] at e
      have e1 : m = m' := by cases e; rfl
      have e2 : s = t := by cases e; rfl
      subst e1 e2
      exact ⟨hm, hs, hn⟩
theorem runR_bd (p : Prg) (who : Int) (l : Lcl) (h : Int) (args : List Int) : (runR p who l h args).l.regs.length < 4611686018427387904 ∧ (runR p who l h args).notes.length < 4611686018427387904 ∧ ∀ n ∈ (runR p who l h args).notes, n.args.length < 4611686018427387904 := by
  by_cases hm : mayV p who l h args
  rotate_left
  · unfold runR; rw [if_neg hm]; simp [zeroRes]
  obtain ⟨x, hx, _, _, hro, hmi, h1, h2, _⟩ := hm.ro
  have hrl := hm.2.2.2.2.2.2.1
  unfold runR
  rw [if_pos hm, hx]
  simp only [Option.map_some, Option.getD_some]
  have key := runG_end hro (p.fuel.toNat + 1) (m0Of l) 0 hmi (by simp only [fxOf]; omega) (by simp [m0Of])
  generalize runG (fxOf p who l args) x.code (p.fuel.toNat + 1) (m0Of l) 0 = R at key
  obtain ⟨o, d, t⟩ := R
  cases o with
  | none => simp [goR]; omega
  | some m =>
    obtain ⟨a1, a2, a3⟩ := key m d t rfl
    have b1 := a1.rl
    have b2 := a1.nl
    have b3 : t ≤ p.fuel := a2
    simp only [goR]
    exact ⟨by omega, by omega, fun n hn => by have := a3 n hn; omega⟩
theorem vmRuns_pc (p : Prg) (who : Int) (l : Lcl) (h : Int) (args : List Int) : PC Try.prog 13 [p.av, iv who, l.av, iv h, ints args] (.bool true) := by
  refine pc_of_get vruns_get (by simp) _ (by simp) _ ?_
  unfold vruns_c
  simp
  refine call (small_pc p) (by simp) ?_
  simp
  by_cases h1 : smallV p
  rotate_left
  · simp [h1, Lcl.av]
    refine call awake6_pc (by simp) ?_
    simp
  by_cases h2 : (10 : Int) < l.regs.length
  · simp [h1, h2, Lcl.av]
    refine call awake6_pc (by simp) ?_
    simp
  by_cases h3 : (6 : Int) < args.length
  · simp [h1, h2, h3, Lcl.av]
    refine call awake6_pc (by simp) ?_
    simp
  have hl : p.hs.length < 1000000 := by have := h1.1; omega
  obtain ⟨b1, b2, b3⟩ := runR_bd p who l h args
  simp [h1, h2, h3, Lcl.av]
  refine calld (may_pc p who l h args) (by simp [Lcl.av]) ?_
  simp
  refine calld (rmay_pc p hl who l h args) (by simp [Lcl.av]) ?_
  simp
  refine calld (run_pc p who l h args) (by simp [Lcl.av]) ?_
  simp [Res.av]
  refine calld (rrun_pc p hl who l h args) (by simp [Lcl.av]) ?_
  simp [Res.av]
  refine calld (same6_pc (runR p who l h args) (runR p who l h args) b1 b2 b3) (by simp [Res.av, Lcl.av]) ?_
  simp
  refine calld awake6_pc (by simp) ?_
  simp

end Go.Gv
