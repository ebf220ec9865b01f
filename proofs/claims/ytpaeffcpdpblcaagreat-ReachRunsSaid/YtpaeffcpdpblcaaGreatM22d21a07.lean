/- Texts of this proof, one behind the other. What is proved, and on which conditions, stands ahead of each. -/
import Derived.Test.YtpaeffcpdpblcaaGreatProg
import Derived.Test.YtpaeffcpdpblcaaGreatM2174aa83
import Derived.Test.YtpaeffcpdpblcaaGreatM195a2869
import Derived.Test.YtpaeffcpdpblcaaGreatM18dc362a

/- All that a handler comes to on its way is in order where it may be run: the stack is as deep as the walk tells. -/
set_option linter.unusedVariables false
set_option linter.unusedSimpArgs false
namespace Go.Gv
open Go.Proofs


theorem len_of (l : List Int) (n : Int) (h : n ≤ l.length) (h0 : 1 ≤ n) : l ≠ [] := by
  intro e; rw [e] at h; simp at h; omega
theorem doV_depth (F : Fx) (i : Ins) (m : Mach) (o : 1 ≤ i.op ∧ i.op ≤ 25) (tk : takesV F.p.hs i ≤ m.st.length) (sn : i.op = 22 → 0 ≤ argsOf F.p.hs i.a) (hz : (doV F i m).2 = 0) :
    ((doV F i m).1.st.length : Int) = m.st.length - takesV F.p.hs i + putsV i.op := by
  have tk' : popsV i.op + (if i.op = 22 then argsOf F.p.hs i.a else 0) ≤ m.st.length := tk
  unfold takesV
  rcases lit25 o.1 o.2 with e | e | e | e | e | e | e | e | e | e | e | e | e | e | e | e | e | e | e | e | e | e | e | e | e
  case inr.inr.inr.inr.inr.inr.inr.inr.inr.inr.inr.inr.inr.inr.inr.inr.inr.inr.inr.inr.inr.inl =>
    have s0 := sn e
    have h1 : 1 ≤ m.st.length := by simp [e, popsV] at tk'; omega
    by_cases hc : top m.st < 0 ∨ top m.st ≥ F.p.as.length
    · simp [doV, e, hc] at hz
    · have hd : (doV F i m).1.st = m.st.take (m.st.length - 1 - argsN F i.a) := by simp [doV, e, hc]
      have hn : (argsN F i.a : Int) = argsOf F.p.hs i.a := by unfold argsN; omega
      rw [hd, e, if_pos rfl]
      simp [e, popsV] at tk'
      simp [popsV, putsV]
      omega
  all_goals
    simp [e, popsV] at tk'
    simp [doV, e, popsV, putsV, oneV] <;> omega
theorem doV_pc (F : Fx) (i : Ins) (m : Mach) (o : 1 ≤ i.op ∧ i.op ≤ 25) (p0 : 0 ≤ m.pc) (jp : i.op = 20 ∨ i.op = 21 → 0 ≤ i.a) : (doV F i m).1.pc = -1 ∨ 0 ≤ (doV F i m).1.pc ∧ (doV F i m).1.pc.toNat ∈ nextV m.pc.toNat i := by
  have e1 : (m.pc + 1).toNat = m.pc.toNat + 1 := by omega
  rcases lit25 o.1 o.2 with e | e | e | e | e | e | e | e | e | e | e | e | e | e | e | e | e | e | e | e | e | e | e | e | e
  case inr.inr.inr.inr.inr.inr.inr.inr.inr.inr.inr.inr.inr.inr.inr.inr.inr.inr.inr.inr.inr.inl =>
    have hd : (doV F i m).1.pc = m.pc + 1 := by
      by_cases hc : top m.st < 0 ∨ top m.st ≥ F.p.as.length <;> simp [doV, e, hc]
    rw [hd]
    exact .inr ⟨by omega, by simp [nextV, e, e1]⟩
  case inr.inr.inr.inr.inr.inr.inr.inr.inr.inr.inr.inr.inr.inr.inr.inr.inr.inr.inr.inr.inl =>
    have hj := jp (.inr e)
    by_cases hc : top m.st = 0
    · have hd : (doV F i m).1.pc = i.a := by simp [doV, e, hc]
      rw [hd]
      exact .inr ⟨hj, by simp [nextV, e]⟩
    · have hd : (doV F i m).1.pc = m.pc + 1 := by simp [doV, e, hc]
      rw [hd]
      exact .inr ⟨by omega, by simp [nextV, e, e1]⟩
  case inr.inr.inr.inr.inr.inr.inr.inr.inr.inr.inr.inr.inr.inr.inr.inr.inr.inr.inr.inl =>
    have hj := jp (.inl e)
    have hd : (doV F i m).1.pc = i.a := by simp [doV, e]
    rw [hd]
    exact .inr ⟨hj, by simp [nextV, e]⟩
  case inr.inr.inr.inr.inr.inr.inr.inr.inr.inr.inr.inr.inr.inr.inr.inr.inr.inr.inr.inr.inr.inr.inr.inr =>
    left; simp [doV, e]
  all_goals
    right
    simp [doV, e, nextV, oneV, e1] <;> omega
theorem ite_regs {c : Prop} [Decidable c] {a b : Mach × Int} {n : Nat} (h1 : a.1.regs.length = n) (h2 : b.1.regs.length = n) : (if c then a else b).1.regs.length = n := by
  by_cases h : c
  · rw [if_pos h]; exact h1
  · rw [if_neg h]; exact h2
theorem doV_regs (F : Fx) (i : Ins) (m : Mach) : (doV F i m).1.regs.length = m.regs.length := by
  unfold doV
  repeat' apply ite_regs
  all_goals first
    | rfl
    | (by_cases h : i.a < m.regs.length <;> simp [h])
structure MI (F : Fx) (code : List Ins) (m : Mach) (s : Int) : Prop where
  pc : m.pc ≤ code.length
  st : 0 ≤ m.pc → Rch F.p.hs code m.pc.toNat m.st.length
  rl : m.regs.length ≤ 8
  nl : (m.notes.length : Int) ≤ s
  s0 : 0 ≤ s
theorem Rch.le {hs : List Hnd} {code : List Ins} {a : Nat} {d : Int} (h : Rch hs code a d) : d ≤ 8 := by
  cases h <;> omega
/-- What is fixed and needed. -/
structure RFix (F : Fx) (code : List Ins) : Prop where
  ok : codeOk F.p.hs code
  good : ∃ o m, Good F.p.hs code o m
  ins : ∃ (n k : Int), ∀ i ∈ code, instrV n F.args.length k i = 0
  who : 0 ≤ F.who ∧ F.who.toNat < F.p.as.length
  fuel : F.p.fuel ≤ 256
theorem RFix.doOk {F : Fx} {code : List Ins} (h : RFix F code) {m : Mach} {s : Int} (hm : MI F code m s) (hp : 0 ≤ m.pc ∧ m.pc < code.length) (hs : s < F.p.fuel) {i : Ins} (hi : code[m.pc.toNat]? = some i) : DoOk F i m := by
  obtain ⟨o, mo, hg⟩ := h.good
  obtain ⟨n, k, hins⟩ := h.ins
  have hr := hm.st hp.1
  obtain ⟨g1, g2⟩ := hg.rch hr
  have hcl := hg.closed _ _ _ g1 (by omega) hi
  have him := List.mem_of_getElem? hi
  obtain ⟨q1, q2, q3, q4, q5, q6⟩ := instrV_zero (hins i him)
  have hio := (h.ok.2 i him).1
  have hle := hr.le
  have hc9 := h.ok.1
  have h1 := hm.rl
  have h2 := hm.nl
  have h3 := h.fuel
  exact ⟨⟨q1, q2⟩, hcl.1, fun e => (q4 e).1, fun e => by have := q5 e; omega, fun e => ⟨(hio e).1, (hio e).2.1, (hio e).2.2.1⟩, h.who, by omega, by omega, by omega, by omega⟩
theorem RFix.next {F : Fx} {code : List Ins} (h : RFix F code) {m : Mach} {s : Int} (hm : MI F code m s) (hp : 0 ≤ m.pc ∧ m.pc < code.length) (hs : s < F.p.fuel) {i : Ins} (hi : code[m.pc.toNat]? = some i) (hz : (doV F i m).2 = 0) : MI F code (doV F i m).1 (s + 1) := by
  have hd := h.doOk hm hp hs hi
  obtain ⟨o, mo, hg⟩ := h.good
  have hr := hm.st hp.1
  obtain ⟨g1, g2⟩ := hg.rch hr
  have hcl := hg.closed _ _ _ g1 (by omega) hi
  have him := List.mem_of_getElem? hi
  have hdep := doV_depth F i m hd.op hd.takes (fun e => (hd.snd e).2.2) hz
  have hjmp := (h.ok.2 i him).2
  have hpc := doV_pc F i m hd.op hp.1 (fun e => (hjmp e).1)
  refine ⟨?_, ?_, by rw [doV_regs]; exact hm.rl, by have := doV_notes F i m; have := hm.nl; omega, by have := hm.s0; omega⟩
  · rcases hpc with e | ⟨e1, e2⟩
    · omega
    · have := nextV_le h.ok hi _ e2
      omega
  · intro h0
    rcases hpc with e | ⟨e1, e2⟩
    · omega
    · rw [hdep]
      exact .step hr hi hcl.1 hcl.2.1 e2
theorem RFix.run {F : Fx} {code : List Ins} (h : RFix F code) : ∀ (f : Nat) (m : Mach) (s : Int), MI F code m s → RunOk F code f m s
  | 0, _, _, _ => trivial
  | f + 1, m, s, hm => fun hp hs i hi => ⟨h.doOk hm hp hs hi, fun hz => h.run f _ _ (h.next hm hp hs hi hz)⟩
theorem firstNZ_all {l : List Int} (h : firstNZ l = 0) : ∀ x ∈ l, x = 0 := firstNZ_zero h
/-- What holds where a handler may be run. -/
theorem mayV.ro {p : Prg} {who : Int} {l : Lcl} {h : Int} {args : List Int} (hm : mayV p who l h args) :
    ∃ x, p.hs[h.toNat]? = some x ∧ x ∈ p.hs ∧ checkV p = 0 ∧ RFix (fxOf p who l args) x.code ∧ MI (fxOf p who l args) x.code (m0Of l) 0 ∧ 1 ≤ p.fuel ∧ p.fuel ≤ 256 ∧ (args.length : Int) = x.args := by
  obtain ⟨h1, h2, h3, h4, h5, h6, h7, h8⟩ := hm
  have hj : h.toNat < p.hs.length := by omega
  have hx : p.hs[h.toNat]? = some p.hs[h.toNat] := List.getElem?_eq_getElem hj
  have hmem : p.hs[h.toNat] ∈ p.hs := List.getElem_mem hj
  have hc : checkV p = 0 := by
    unfold flowV at h1
    split at h1
    · rename_i q; exact absurd h1 q
    · rename_i q; simpa using q
  have hw : walkE p.hs p.hs[h.toNat] = 0 := by
    unfold flowV at h1
    rw [if_neg (by simpa using hc)] at h1
    exact firstNZ_zero h1 _ (List.mem_map_of_mem hmem)
  have hco := codeOk_of hc hmem
  have ha : argsOf p.hs h = p.hs[h.toNat].args := by unfold argsOf; rw [hx]; rfl
  obtain ⟨_, _, _, _, c5, c6, c7, _, _⟩ := checkV_zero hc
  obtain ⟨_, _, d3, d4⟩ := handlerV_zero (c7 _ hmem)
  refine ⟨_, hx, hmem, hc, ⟨hco, ?_, ⟨p.hs.length, p.hs[h.toNat].code.length, ?_⟩, ⟨h2, by simp only [fxOf]; omega⟩, c6⟩, ⟨by simp [m0Of], fun _ => ?_, h7, by simp [m0Of], by omega⟩, c5, c6, by rw [← ha]; exact h6⟩
  · rcases walk_good hco with ⟨o, m, e, g⟩ | ⟨e, _⟩
    · exact ⟨o, m, g⟩
    · unfold walkE at hw; rw [e] at hw; simp at hw
  · intro i hi
    have := d4 i hi
    simp only [fxOf]
    rw [h6, ha]
    exact this
  · exact .start
theorem run_pc (p : Prg) (who : Int) (l : Lcl) (h : Int) (args : List Int) : PC Tryz.prog 19 [p.av, iv who, l.av, iv h, ints args] (runR p who l h args).av := by
  refine mrun_pc p who l h args (fun hm => ?_) (fun hm => ?_)
  · obtain ⟨x, hx, _, _, hro, hmi, _, _, _⟩ := hm.ro
    rw [hx]
    exact hro.run _ _ _ hmi
  · obtain ⟨_, _, _, _, _, _, h1, h2, _⟩ := hm.ro
    omega

end Go.Gv

/- The document's fixed example of chapter 20. No condition. -/
set_option linter.unusedVariables false
set_option linter.unusedSimpArgs false
namespace Go.Gv
open Go.Proofs

def ring_r0 : List AI := [⟨(some 4), none, (.op (.new 145004 4 (.agg [.nils, .nils, .nils, (.int .i64 0)])))⟩]
def ring_r1 : List AI := [⟨(some 8), none, (.op (.build [.nils, (.int .i64 0), (.int .i64 0), (.bool false)] [(2, (1, (.c (.int .i64 (-1)))))]))⟩, ⟨(some 9), none, (.op (.bsl 145009 4 54 1 (.agg [.nils, (.int .i64 0), (.int .i64 0), (.bool false)]) [(0, (.t 8))]))⟩, ⟨(some 10), none, (.op (.build [.nils, .nils, .nils, (.int .i64 0)] [(1, (1, (.t 9))), (3, (1, (.c (.int .i64 10))))]))⟩, ⟨(some 5), none, (.op (.new 145005 4 (.agg [.nils, .nils, .nils, (.int .i64 0)])))⟩, ⟨none, none, (.op (.store 4 (.t 5) (.t 10)))⟩]
def ring_r2 : List AI := [⟨(some 6), none, (.op (.mv (.c (.int .i64 0))))⟩]
def ring_r3 : List AI := [⟨(some 11), none, (.op (.mv (.t 6)))⟩, ⟨(some 12), none, (.op (.mv (.t 0)))⟩, ⟨(some 13), none, (.op (.ibin .lss (.t 11) (.t 12)))⟩]
def ring_r4 : List AI := [⟨(some 7), none, (.op (.mv (.c .nils)))⟩]
def ring_r5 : List AI := [⟨(some 16), none, (.op (.mv (.t 6)))⟩, ⟨(some 17), none, (.op (.ibin .add (.t 16) (.c (.int .i64 1))))⟩, ⟨(some 18), none, (.op (.mv (.t 0)))⟩, ⟨(some 19), none, (.op (.ibin .lss (.t 17) (.t 18)))⟩]
def ring_r6 : List AI := [⟨(some 20), none, (.op (.build [(.int .i64 0), (.int .i64 0)] [(0, (1, (.c (.int .i64 8))))]))⟩, ⟨(some 21), none, (.op (.mv (.t 6)))⟩, ⟨(some 22), none, (.op (.ibin .add (.t 21) (.c (.int .i64 1))))⟩, ⟨(some 23), none, (.op (.build [(.int .i64 0), (.int .i64 0)] [(0, (1, (.c (.int .i64 22)))), (1, (1, (.t 22)))]))⟩, ⟨(some 24), none, (.op (.bsl 145024 2 85 2 (.agg [(.int .i64 0), (.int .i64 0)]) [(0, (.t 20)), (1, (.t 23))]))⟩, ⟨(some 7), none, (.op (.mv (.t 24)))⟩]
def ring_r7 : List AI := [⟨(some 25), none, (.op (.mv (.t 1)))⟩]
def ring_r8 : List AI := [⟨(some 26), none, (.op (.build [(.int .i64 0), (.int .i64 0)] [(0, (1, (.c (.int .i64 8))))]))⟩, ⟨(some 27), none, (.op (.build [(.int .i64 0), (.int .i64 0)] [(0, (1, (.c (.int .i64 22))))]))⟩, ⟨(some 28), none, (.op (.bsl 145028 2 85 2 (.agg [(.int .i64 0), (.int .i64 0)]) [(0, (.t 26)), (1, (.t 27))]))⟩, ⟨(some 7), none, (.op (.mv (.t 28)))⟩]
def ring_r9 : List AI := [⟨(some 29), none, (.op (.fld 0 (.t 5)))⟩, ⟨(some 30), none, (.op (.load none (.t 29)))⟩, ⟨(some 31), none, (.op (.mv (.t 7)))⟩, ⟨(some 32), none, (.op (.build [(.int .i64 0), .nils] [(1, (1, (.t 31)))]))⟩, ⟨(some 33), none, (.op (.bsl 145033 2 52 1 (.agg [(.int .i64 0), .nils]) [(0, (.t 32))]))⟩, ⟨(some 34), none, (.op (.app 145034 2 52 32 (.t 30) (.t 33)))⟩, ⟨(some 35), none, (.op (.fld 0 (.t 5)))⟩, ⟨none, none, (.op (.store 1 (.t 35) (.t 34)))⟩]
def ring_r10 : List AI := [⟨(some 14), none, (.op (.mv (.t 6)))⟩, ⟨(some 15), none, (.op (.ibin .add (.t 14) (.c (.int .i64 1))))⟩, ⟨(some 6), none, (.op (.mv (.t 15)))⟩]
def ring_l0 : AC := (.seq (.seq (.reg ring_r3) (.cond (.t 13) .skip (.exit 0))) (.seq (.block 1 (.seq (.reg ring_r4) (.seq (.seq (.reg ring_r5) (.cond (.t 19) (.reg ring_r6) (.seq (.reg ring_r7) (.cond (.t 25) (.reg ring_r8) .skip)))) (.reg ring_r9)))) (.reg ring_r10)))
def ring_r11 : List AI := [⟨(some 36), none, (.op (.load (some 4) (.t 5)))⟩, ⟨none, none, (.op (.store 4 (.t 4) (.t 36)))⟩]
def ring_c : AC := (.seq (.reg ring_r0) (.seq (.reg ring_r1) (.seq (.seq (.reg ring_r2) (.block 0 (.loop ring_l0))) (.seq (.reg ring_r11) .ret))))
def ring_res : List ARes := [(.cell (some 4) 4)]
set_option maxRecDepth 100000 in
theorem ring_get : getF Tryz.prog 21 145000 [] = some ("gavotte/gavottelaw20.ring", 37, ring_c, ring_res) := by kernel_rfl
def awake20_r0 : List AI := [⟨(some 0), none, (.op (.mv (.c (.bool false))))⟩]
def awake20_r1 : List AI := [⟨(some 7), none, (.call (.c (.fn 21 [])) [(.c (.int .i64 3)), (.c (.bool false))])⟩, ⟨(some 1), none, (.op (.new 146001 4 (.agg [.nils, .nils, .nils, (.int .i64 0)])))⟩, ⟨none, none, (.op (.store 4 (.t 1) (.t 7)))⟩]
def awake20_r2 : List AI := [⟨(some 8), none, (.op (.build [(.int .i64 0), (.int .i64 0), .nils] [(1, (1, (.c (.int .i64 1))))]))⟩, ⟨(some 9), none, (.op (.bsl 146009 3 49 1 (.agg [(.int .i64 0), (.int .i64 0), .nils]) [(0, (.t 8))]))⟩, ⟨(some 10), none, (.op (.fld 2 (.t 1)))⟩, ⟨none, none, (.op (.store 1 (.t 10) (.t 9)))⟩]
def awake20_r3 : List AI := [⟨(some 12), none, (.op (.load (some 4) (.t 1)))⟩, ⟨(some 13), none, (.call (.c (.fn 7 [])) [(.t 12)])⟩, ⟨(some 11), none, (.op (.mv (.t 13)))⟩, ⟨(some 14), none, (.op (.ext (.t 11) 0))⟩, ⟨(some 15), none, (.op (.ext (.t 11) 1))⟩, ⟨(some 2), none, (.op (.mv (.t 14)))⟩, ⟨(some 3), none, (.op (.mv (.t 15)))⟩]
def awake20_r4 : List AI := [⟨(some 17), none, (.op (.build [.nils, .nils, .nils, (.int .i64 0)] []))⟩, ⟨(some 18), none, (.call (.c (.fn 7 [])) [(.t 17)])⟩, ⟨(some 16), none, (.op (.mv (.t 18)))⟩, ⟨(some 19), none, (.op (.ext (.t 16) 0))⟩, ⟨(some 20), none, (.op (.ext (.t 16) 1))⟩, ⟨(some 4), none, (.op (.mv (.t 19)))⟩, ⟨(some 5), none, (.op (.mv (.t 20)))⟩]
def awake20_r5 : List AI := [⟨(some 21), none, (.op (.mv (.t 3)))⟩, ⟨(some 22), none, (.op (.ibin .neq (.t 21) (.c (.int .i64 0))))⟩, ⟨(some 23), none, (.op (.mv (.t 22)))⟩, ⟨(some 24), (some (23, false)), (.op (.mv (.t 2)))⟩, ⟨(some 25), (some (23, false)), (.nq 1 false (.t 24))⟩, ⟨(some 26), none, (.op (.pick (.t 23) (.c (.bool true)) (.t 25)))⟩, ⟨(some 27), none, (.op (.mv (.t 26)))⟩, ⟨(some 28), (some (27, false)), (.op (.mv (.t 5)))⟩, ⟨(some 29), (some (27, false)), (.op (.ibin .neq (.t 28) (.c (.int .i64 1))))⟩, ⟨(some 30), none, (.op (.pick (.t 27) (.c (.bool true)) (.t 29)))⟩, ⟨(some 31), none, (.op (.mv (.t 30)))⟩, ⟨(some 32), (some (31, false)), (.op (.mv (.t 2)))⟩, ⟨(some 33), (some (31, false)), (.call (.c (.fn 22 [])) [(.t 32)])⟩, ⟨(some 34), (some (31, false)), (.op (.ibin .neq (.t 33) (.c (.int .i64 0))))⟩, ⟨(some 35), none, (.op (.pick (.t 31) (.c (.bool true)) (.t 34)))⟩]
def awake20_r6 : List AI := [⟨(some 0), none, (.op (.mv (.c (.bool false))))⟩]
def awake20_r7 : List AI := [⟨(some 6), none, (.op (.mv (.c .nilp)))⟩]
def awake20_r8 : List AI := [⟨(some 36), none, (.op (.mv (.t 2)))⟩, ⟨(some 37), none, (.call (.c (.fn 10 [])) [(.t 36), (.c (.int .i64 0))])⟩, ⟨(some 38), none, (.op (.bsl 146038 1 3 1 (.int .i64 0) [(0, (.c (.int .i64 1)))]))⟩, ⟨(some 39), none, (.call (.c (.fn 9 [])) [(.t 37), (.t 38)])⟩, ⟨(some 40), none, (.op (.mv (.t 39)))⟩, ⟨(some 41), (some (40, true)), (.op (.mv (.t 2)))⟩, ⟨(some 42), (some (40, true)), (.call (.c (.fn 22 [])) [(.t 41)])⟩, ⟨(some 43), (some (40, true)), (.op (.ibin .eql (.t 42) (.c (.int .i64 1))))⟩, ⟨(some 44), none, (.op (.pick (.t 40) (.t 43) (.c (.bool false))))⟩, ⟨(some 45), none, (.op (.mv (.t 44)))⟩, ⟨(some 46), (some (45, true)), (.op (.mv (.t 2)))⟩, ⟨(some 47), (some (45, true)), (.call (.c (.fn 12 [])) [(.t 46), (.c (.int .i64 0))])⟩, ⟨(some 48), (some (45, true)), (.op (.bsl 146048 1 3 2 (.int .i64 0) [(0, (.c (.int .i64 1))), (1, (.c (.int .i64 2)))]))⟩, ⟨(some 49), (some (45, true)), (.call (.c (.fn 9 [])) [(.t 47), (.t 48)])⟩, ⟨(some 50), none, (.op (.pick (.t 45) (.t 49) (.c (.bool false))))⟩, ⟨(some 51), none, (.op (.mv (.t 50)))⟩, ⟨(some 52), (some (51, true)), (.op (.mv (.t 2)))⟩, ⟨(some 53), (some (51, true)), (.call (.c (.fn 14 [])) [(.t 52)])⟩, ⟨(some 54), (some (51, true)), (.op (.bsl 146054 1 3 2 (.int .i64 0) [(0, (.c (.int .i64 1))), (1, (.c (.int .i64 2)))]))⟩, ⟨(some 55), (some (51, true)), (.call (.c (.fn 9 [])) [(.t 53), (.t 54)])⟩, ⟨(some 56), none, (.op (.pick (.t 51) (.t 55) (.c (.bool false))))⟩, ⟨(some 57), none, (.op (.mv (.t 56)))⟩, ⟨(some 58), (some (57, true)), (.op (.mv (.t 2)))⟩, ⟨(some 59), (some (57, true)), (.call (.c (.fn 16 [])) [(.t 58), (.c (.int .i64 0))])⟩, ⟨(some 60), (some (57, true)), (.op (.not (.t 59)))⟩, ⟨(some 61), none, (.op (.pick (.t 57) (.t 60) (.c (.bool false))))⟩, ⟨(some 62), none, (.op (.mv (.t 61)))⟩, ⟨(some 63), (some (62, true)), (.op (.mv (.t 2)))⟩, ⟨(some 64), (some (62, true)), (.call (.c (.fn 10 [])) [(.t 63), (.c (.int .i64 3))])⟩, ⟨(some 65), (some (62, true)), (.op (.len (.t 64)))⟩, ⟨(some 66), (some (62, true)), (.op (.ibin .eql (.t 65) (.c (.int .i64 0))))⟩, ⟨(some 67), none, (.op (.pick (.t 62) (.t 66) (.c (.bool false))))⟩, ⟨(some 68), none, (.op (.mv (.t 67)))⟩, ⟨(some 69), (some (68, true)), (.op (.mv (.t 6)))⟩, ⟨(some 70), (some (68, true)), (.call (.c (.fn 22 [])) [(.t 69)])⟩, ⟨(some 71), (some (68, true)), (.op (.ibin .eql (.t 70) (.c (.int .i64 0))))⟩, ⟨(some 72), none, (.op (.pick (.t 68) (.t 71) (.c (.bool false))))⟩, ⟨(some 73), none, (.op (.mv (.t 72)))⟩, ⟨(some 74), (some (73, true)), (.op (.mv (.t 6)))⟩, ⟨(some 75), (some (73, true)), (.call (.c (.fn 14 [])) [(.t 74)])⟩, ⟨(some 76), (some (73, true)), (.op (.len (.t 75)))⟩, ⟨(some 77), (some (73, true)), (.op (.ibin .eql (.t 76) (.c (.int .i64 0))))⟩, ⟨(some 78), none, (.op (.pick (.t 73) (.t 77) (.c (.bool false))))⟩, ⟨(some 0), none, (.op (.mv (.t 78)))⟩]
def awake20_c : AC := (.seq (.reg awake20_r0) (.seq (.reg awake20_r1) (.seq (.reg awake20_r2) (.seq (.reg awake20_r3) (.seq (.reg awake20_r4) (.seq (.seq (.reg awake20_r5) (.cond (.t 35) (.seq (.reg awake20_r6) .ret) .skip)) (.seq (.reg awake20_r7) (.seq (.reg awake20_r8) .ret))))))))
def awake20_res : List ARes := [(.tmp 0)]
set_option maxRecDepth 100000 in
theorem awake20_get : getF Tryz.prog 6 146000 [] = some ("gavotte/gavottelaw20.awake", 79, awake20_c, awake20_res) := by kernel_rfl
attribute [simp] ring_r0 ring_r1 ring_r2 ring_r3 ring_r4 ring_r5 ring_r6 ring_r7 ring_r8 ring_r9 ring_r10 ring_r11 ring_res awake20_r0 awake20_r1 awake20_r2 awake20_r3 awake20_r4 awake20_r5 awake20_r6 awake20_r7 awake20_r8 awake20_res


def ringC (n : Nat) (back : Bool) (i : Nat) : List Ins := if i + 1 < n then [⟨8, 0⟩, ⟨22, (i + 1 : Nat)⟩] else if back = true then [⟨8, 0⟩, ⟨22, 0⟩] else []
def ringH (n : Nat) (back : Bool) (i : Nat) : Hnd := ⟨0, ringC n back i⟩
/-- An empty list of instructions is told by nil. -/
def codeN (l : List Ins) : AV := match l with | [] => .nils | x :: l => .lst 2 ((x :: l).map Ins.av)
def ringE (n : Nat) (back : Bool) (i : Nat) : List AV := (List.range i).map fun i => .agg [iv 0, codeN (ringC n back i)]
theorem ringE_succ (n : Nat) (back : Bool) (i : Nat) : ringE n back (i + 1) = ringE n back i ++ [.agg [iv 0, codeN (ringC n back i)]] := range_map_take _ _
theorem ringE_len (n : Nat) (back : Bool) (i : Nat) : (ringE n back i).length = i := by simp [ringE]
def actE : AV := .agg [.nils, iv 0, iv (-1), .bool false]
theorem ring_pc (n : Nat) (hn : n ≤ 1000) (back : Bool) : PC Tryz.prog 21 [iv n, .bool back] (.agg [.lst 2 (ringE n back n), .lst 4 [actE], .lst 3 [], iv 10]) := by
  refine pc_of_get ring_get (by simp) _ (by simp) _ ?_
  unfold ring_c
  simp
  refine loopN (fun i S => S.t 0 = iv n ∧ S.t 1 = .bool back ∧ S.t 6 = iv i ∧ (∃ s4, S.t 4 = .ptr 145004 s4 4 0 0 ∧ S.blk 145004 = some ⟨s4, 4, [.agg [.nils, .nils, .nils, iv 0]]⟩) ∧
    (∃ s5 v s9, S.t 5 = .ptr 145005 s5 4 0 0 ∧ S.blk 145005 = some ⟨s5, 4, [.agg [v, .acc 145009 s9 4 [actE], .nils, iv 10]]⟩ ∧ AccIs S v 145034 2 52 (ringE n back i))) n ?_ ?_
  · simp [AccIs, ringE, actE]
  · rintro i S hi ⟨g0, g1, g6, ⟨s4, g4, b4⟩, ⟨s5, v, s9, g5, b5, hv⟩⟩
    by_cases hlt : i < n
    · have hw := wrap_succ i _ hlt (by omega)
      have hel := ringE_len n back i
      have hes := ringE_succ n back i
      have hb : ((ringE n back i).length + 1) * 32 ≤ 140737488355328 := by omega
      generalize ringE n back i = xs at *
      by_cases hlast : i + 1 < n
      · have hc : codeN (ringC n back i) = .lst 2 [.agg [iv 8, iv 0], .agg [iv 22, iv ((i + 1 : Nat) : Int)]] := by simp [ringC, hlast, codeN, Ins.av]
        rw [hc] at hes
        have hlast' : ((i : Int) + 1 < (n : Int)) := by omega
        rcases hv with ⟨rfl, hx⟩ | ⟨s, rfl, hx⟩
        · subst hx
          simp [ring_l0, g0, g1, g4, g5, g6, b4, b5, hlt, hw, hlast, hlast']
          simp [AccIs, hes]
        · simp [ring_l0, g0, g1, g4, g5, g6, b4, b5, hlt, hw, hlast, hlast', hx, hb]
          simp [AccIs, hes]
      · have hlast' : ¬ ((i : Int) + 1 < (n : Int)) := by omega
        cases back with
        | true =>
          have hc : codeN (ringC n true i) = .lst 2 [.agg [iv 8, iv 0], .agg [iv 22, iv 0]] := by simp [ringC, hlast, codeN, Ins.av]
          rw [hc] at hes
          rcases hv with ⟨rfl, hx⟩ | ⟨s, rfl, hx⟩
          · subst hx
            simp [ring_l0, g0, g1, g4, g5, g6, b4, b5, hlt, hw, hlast, hlast']
            simp [AccIs, hes]
          · simp [ring_l0, g0, g1, g4, g5, g6, b4, b5, hlt, hw, hlast, hlast', hx, hb]
            simp [AccIs, hes]
        | false =>
          have hc : codeN (ringC n false i) = .nils := by simp [ringC, hlast, codeN]
          rw [hc] at hes
          rcases hv with ⟨rfl, hx⟩ | ⟨s, rfl, hx⟩
          · subst hx
            simp [ring_l0, g0, g1, g4, g5, g6, b4, b5, hlt, hw, hlast, hlast']
            simp [AccIs, hes]
          · simp [ring_l0, g0, g1, g4, g5, g6, b4, b5, hlt, hw, hlast, hlast', hx, hb]
            simp [AccIs, hes]
    · have e1 : i = n := by omega
      subst e1
      rcases hv with ⟨rfl, hx⟩ | ⟨s, rfl, hx⟩
      · simp [ring_l0, g0, g6, g5, g4, b4, b5, hx]
      · simp [ring_l0, g0, g6, g5, g4, b4, b5]
def awP : Prg := ⟨[⟨0, [⟨8, 0⟩, ⟨22, 1⟩]⟩, ⟨0, [⟨8, 0⟩, ⟨22, 2⟩]⟩, ⟨0, []⟩], [⟨[], 0, -1, false⟩], [⟨0, 1, []⟩], 10⟩
theorem aw_flow : flowV awP = 0 := by decide +kernel
theorem aw_snd : sndV awP = [[1], [2], []] := by rw [sndV_put]; decide +kernel
theorem aw_arms : armsV awP = [false, false, false] := by decide +kernel
theorem aw_rea : reaV awP = [[1, 2], [2], []] := by rw [reaV, aw_snd]; decide +kernel
theorem aw_live : liveP awP = [1, 2] := by rw [liveP, aw_snd, aw_arms]; decide +kernel
def nonP : Prg := ⟨[], [], [], 0⟩
theorem no_flow : flowV nonP = 1 := by decide +kernel
theorem awake20_v {S : St} {k : AV → St → Prop} {u : Dep k} (hk : ∀ S', S'.t = S.t → S.clk ≤ S'.clk → k (.bool true) S') : CallG Tryz.prog (.fn 6 []) [] S k u := by
  refine callV awake20_get (by simp) (by simp) ?_
  unfold awake20_c
  simp
  refine call (ring_pc 3 (by omega) false) (by simp) ?_
  simp [ringE, actE]
  refine call_coarse 2 (vals' := [awP.av]) rfl ?_ (pnew_v awP (fun _ S1 st hP hB hK ht hc => ?_) (fun h => absurd aw_flow h))
  · intro j x y hx hy
    match j with
    | 0 => simp at hx hy; subst hx hy; right; simp [awP, Prg.av, Hnd.av, Ins.av, Actr.av, Nt.av, ringC, codeN, List.range, List.range.loop, elemR, dco, coL, co1, ints]
    | j + 1 => simp at hx
  · have hL : LR 170013 = false := by decide
    have hc : S.clk ≤ S1.clk := by simp at hc; omega
    simp [ht]
    clear hB hK
    refine call_coarse 2 (vals' := [nonP.av]) rfl ?_ (pnew_v nonP (fun h => by rw [no_flow] at h; cases h) (fun _ S2 hB2 hK2 ht2 hc2 => ?_))
    · intro j x y hx hy
      match j with
      | 0 => simp at hx hy; subst hx hy; right; simp [nonP, Prg.av, elemR, dco, coL, co1]
      | j + 1 => simp at hx
    · have hP2 : PlanF 170013 st awP S2 := by unfold PlanF; rw [hB2 170013 (by simp)]; exact hP
      have hc2 : S.clk ≤ S2.clk := by simp at hc2; omega
      clear hB2 hK2 hP
      rw [no_flow]
      simp [ht2]
      refine pmade_v 170013 st awP (.inl hP2) (fun S3 ht3 hB3 hK3 hc3 => ⟨fun _ => ?_, fun q => ?_⟩)
      rotate_left
      · unfold PlanF at hP2; unfold PlanM at q; simp only [] at q; rw [hP2] at q; simp [planC, madeC] at q
      have hP3 : PlanF 170013 st awP S3 := by unfold PlanF; rw [hB3]; exact hP2
      have hc3 : S.clk ≤ S3.clk := by simp at hc3; omega
      clear hB3 hK3 hP2
      simp [ht3]
      refine psends_v 170013 st hL awP aw_flow 0 (.inl hP3) (fun S4 hP4 hF4 ht4 _ => ?_)
      have hc4 : S.clk ≤ S4.clk := by have := hF4.c; simp at this; omega
      clear hF4 hP3
      rw [aw_snd]
      simp [ht4, atI]
      refine call (aints_pc [1] [1] (by simp)) (by simp [ints]) ?_
      simp [ht4]
      refine pmade_v 170013 st awP (.inr hP4) (fun S5 ht5 hB5 hK5 hc5 => ⟨fun q => ?_, fun _ => ?_⟩)
      · unfold PlanM at hP4; unfold PlanF at q; simp only [] at q; rw [hP4] at q; simp [planC, madeC] at q
      have hP5 : PlanM 170013 st awP S5 := by unfold PlanM; rw [hB5]; exact hP4
      have hc5 : S.clk ≤ S5.clk := by simp at hc5; omega
      clear hB5 hK5 hP4
      simp [ht5]
      refine preaches_v 170013 st hL awP aw_flow 0 (.inr hP5) (fun S6 hP6 hF6 ht6 _ => ?_)
      have hc6 : S.clk ≤ S6.clk := by have := hF6.c; simp at this; omega
      clear hF6 hP5
      rw [aw_rea]
      simp [ht6, atI]
      refine call (aints_pc [1, 2] [1, 2] (by simp)) (by simp [ints]) ?_
      simp [ht6]
      refine plive_v 170013 st hL awP aw_flow (.inr hP6) (fun S7 hP7 hF7 ht7 _ => ?_)
      have hc7 : S.clk ≤ S7.clk := by have := hF7.c; simp at this; omega
      clear hF7 hP6
      rw [aw_live]
      simp [ht7]
      refine call (aints_pc [1, 2] [1, 2] (by simp)) (by simp [ints]) ?_
      simp [ht7]
      refine parms_v 170013 st hL awP aw_flow 0 (.inr hP7) (fun S8 hP8 hF8 ht8 _ => ?_)
      have hc8 : S.clk ≤ S8.clk := by have := hF8.c; simp at this; omega
      clear hF8 hP7
      rw [aw_arms]
      simp [ht8, atB]
      refine psends_v 170013 st hL awP aw_flow 3 (.inr hP8) (fun S9 hP9 hF9 ht9 _ => ?_)
      have hc9 : S.clk ≤ S9.clk := by have := hF9.c; simp at this; omega
      clear hF9 hP8
      rw [aw_snd]
      simp [ht9, atI, ints]
      refine pmade_nil (fun Sa hta hBa hKa hca => ?_)
      have hca : S.clk ≤ Sa.clk := by simp at hca; omega
      clear hBa hKa hP9
      simp [hta]
      refine plive_nil (fun Sb htb hBb hKb hcb => ?_)
      simp [htb]
      exact hk _ rfl (by simp at hcb ⊢; omega)

end Go.Gv

/- The law ReachPaths answers true, for all programs. No condition. -/
set_option linter.unusedVariables false
set_option linter.unusedSimpArgs false
namespace Go.Gv
open Go.Proofs


structure PSt (st : Nat) (p : Prg) (k : Int) (S : St) : Prop where
  t2 : ∃ s2, S.t 2 = .ptr 180002 s2 4 0 0 ∧ S.blk 180002 = some ⟨s2, 4, [p.av]⟩
  pl : PlanM 170013 st p S
  t5 : S.t 5 = .ptr 170013 st 12 0 0
  t7 : S.t 7 = iv k
def IsW (v : AV) (w : List Int) : Prop := v = ints w ∨ (v = .nils ∧ w = [])
theorem IsW.co {v : AV} {w : List Int} (h : IsW v w) : co1 none v (ints w) := by
  rcases h with rfl | ⟨rfl, rfl⟩ <;> simp [ints]
theorem IsW.cells {v : AV} {w : List Int} (h : IsW v w) : v.one = true := by
  rcases h with rfl | ⟨rfl, rfl⟩ <;> simp [ints]
theorem IsW.co0 {v : AV} {w : List Int} (h : IsW v w) : Go.Gv.co none v (ints w) := by
  rcases h with rfl | ⟨rfl, rfl⟩ <;> simp [ints]
theorem putL_len : ∀ (m l : List Int), (putL l m).length ≤ l.length + m.length
  | [], l => by simp [putL]
  | x :: m, l => by
    have ih := putL_len m (put1 l x)
    have h1 : ∀ l : List Int, (put1 l x).length ≤ l.length + 1 := by
      intro l
      induction l with
      | nil => simp [put1]
      | cons y l ih =>
        simp only [put1]
        split
        · simp; omega
        · split <;> simp
    have := h1 l
    simp only [putL, List.foldl_cons, List.length_cons] at ih ⊢
    omega
theorem put1_len (l : List Int) (x : Int) : (put1 l x).length ≤ l.length + 1 := putL_len [x] l
theorem atI_bound {l : List (List Int)} {b : Nat} (h : ∀ s ∈ l, s.length ≤ b) (n : Int) : (atI l n).length ≤ b := by
  unfold atI
  split
  · cases hq : l[n.toNat]? with
    | none => simp
    | some s => exact h s (List.mem_of_getElem? hq)
  · simp
theorem wantL_len {rea : List (List Int)} {b : Nat} (h : ∀ s ∈ rea, s.length ≤ b) (s : List Int) (i : Nat) : (wantL rea (s.take i)).length ≤ i * (b + 1) := by
  induction i with
  | zero => simp [wantL]
  | succ i ih =>
    by_cases hi : i < s.length
    · rw [wantL_succ rea s i hi]
      have h1 := putL_len (atI rea s[i]) (put1 (wantL rea (s.take i)) s[i])
      have h2 := put1_len (wantL rea (s.take i)) s[i]
      have h3 := atI_bound h s[i]
      have : (i + 1) * (b + 1) = i * (b + 1) + b + 1 := by rw [Nat.add_mul]; omega
      omega
    · have e : s.take (i + 1) = s.take i := by rw [List.take_of_length_le (by omega), List.take_of_length_le (by omega)]
      rw [e]
      refine Nat.le_trans ih (Nat.mul_le_mul_right _ (by omega))
-- The inner loop of the first: what is reached from one.
theorem meetsV_one {l : List Int} {x : Int} (h : x ∈ l) : meetsV l [x] = true := List.any_eq_true.2 ⟨x, h, by simp⟩
end Go.Gv

/- What the document's own sends, Sends and Arms answer. Conditions: the program's flow may be. -/
set_option linter.unusedVariables false
set_option linter.unusedSimpArgs false
namespace Go.Gv
open Go.Proofs

def r20s_r0 : List AI := [⟨(some 2), none, (.op (.box 190002 4 (.t 0)))⟩, ⟨(some 4), none, (.op (.mv (.c .nils)))⟩, ⟨(some 5), none, (.op (.mv (.c (.bool false))))⟩]
def r20s_r1 : List AI := [⟨(some 14), none, (.op (.load (some 4) (.t 2)))⟩, ⟨(some 15), none, (.op (.mv (.t 1)))⟩, ⟨(some 16), none, (.call (.c (.fn 26 [])) [(.t 14), (.t 15)])⟩, ⟨(some 13), none, (.op (.mv (.t 16)))⟩, ⟨(some 17), none, (.op (.ext (.t 13) 0))⟩, ⟨(some 18), none, (.op (.ext (.t 13) 1))⟩, ⟨(some 19), none, (.op (.ext (.t 13) 2))⟩, ⟨(some 6), none, (.op (.mv (.t 17)))⟩, ⟨(some 7), none, (.op (.mv (.t 18)))⟩, ⟨(some 8), none, (.op (.mv (.t 19)))⟩]
def r20s_r2 : List AI := [⟨(some 9), none, (.op (.mv (.c .nils)))⟩]
def r20s_r3 : List AI := [⟨(some 10), none, (.op (.mv (.c (.bool false))))⟩]
def r20s_r4 : List AI := [⟨(some 20), none, (.op (.fld 0 (.t 2)))⟩, ⟨(some 21), none, (.op (.load none (.t 20)))⟩, ⟨(some 22), none, (.op (.mv (.t 1)))⟩, ⟨(some 23), none, (.op (.idx 2 (.t 21) (.t 22)))⟩, ⟨(some 24), none, (.op (.fld 1 (.t 23)))⟩, ⟨(some 25), none, (.op (.load none (.t 24)))⟩, ⟨(some 11), none, (.op (.mv (.t 25)))⟩]
def r20s_r5 : List AI := [⟨(some 12), none, (.op (.mv (.c (.int .i64 0))))⟩]
def r20s_r6 : List AI := [⟨(some 26), none, (.op (.mv (.t 12)))⟩, ⟨(some 27), none, (.op (.mv (.t 11)))⟩, ⟨(some 28), none, (.op (.len (.t 27)))⟩, ⟨(some 29), none, (.op (.ibin .lss (.t 26) (.t 28)))⟩]
def r20s_r7 : List AI := [⟨(some 32), none, (.op (.mv (.t 6)))⟩, ⟨(some 33), none, (.op (.mv (.t 12)))⟩, ⟨(some 34), none, (.op (.idx 1 (.t 32) (.t 33)))⟩, ⟨(some 35), none, (.op (.load none (.t 34)))⟩, ⟨(some 36), none, (.op (.ibin .lss (.t 35) (.c (.int .i64 0))))⟩]
def r20s_r8 : List AI := [⟨(some 37), none, (.op (.mv (.t 11)))⟩, ⟨(some 38), none, (.op (.mv (.t 12)))⟩, ⟨(some 39), none, (.op (.idx 2 (.t 37) (.t 38)))⟩, ⟨(some 40), none, (.op (.fld 0 (.t 39)))⟩, ⟨(some 41), none, (.op (.load none (.t 40)))⟩, ⟨(some 42), none, (.op (.ibin .eql (.t 41) (.c (.int .i64 22))))⟩]
def r20s_r9 : List AI := [⟨(some 43), none, (.op (.mv (.t 9)))⟩, ⟨(some 44), none, (.op (.mv (.t 11)))⟩, ⟨(some 45), none, (.op (.mv (.t 12)))⟩, ⟨(some 46), none, (.op (.idx 2 (.t 44) (.t 45)))⟩, ⟨(some 47), none, (.op (.fld 1 (.t 46)))⟩, ⟨(some 48), none, (.op (.load none (.t 47)))⟩, ⟨(some 49), none, (.call (.c (.fn 30 [])) [(.t 43), (.t 48)])⟩, ⟨(some 9), none, (.op (.mv (.t 49)))⟩]
def r20s_r10 : List AI := [⟨(some 50), none, (.op (.mv (.t 10)))⟩, ⟨(some 51), none, (.op (.mv (.t 50)))⟩, ⟨(some 52), (some (51, false)), (.op (.mv (.t 11)))⟩, ⟨(some 53), (some (51, false)), (.op (.mv (.t 12)))⟩, ⟨(some 54), (some (51, false)), (.op (.idx 2 (.t 52) (.t 53)))⟩, ⟨(some 55), (some (51, false)), (.op (.fld 0 (.t 54)))⟩, ⟨(some 56), (some (51, false)), (.op (.load none (.t 55)))⟩, ⟨(some 57), (some (51, false)), (.op (.ibin .eql (.t 56) (.c (.int .i64 23))))⟩, ⟨(some 58), none, (.op (.pick (.t 51) (.c (.bool true)) (.t 57)))⟩, ⟨(some 10), none, (.op (.mv (.t 58)))⟩]
def r20s_r11 : List AI := [⟨(some 30), none, (.op (.mv (.t 12)))⟩, ⟨(some 31), none, (.op (.ibin .add (.t 30) (.c (.int .i64 1))))⟩, ⟨(some 12), none, (.op (.mv (.t 31)))⟩]
def r20s_l0 : AC := (.seq (.seq (.reg r20s_r6) (.cond (.t 29) .skip (.exit 0))) (.seq (.block 1 (.seq (.seq (.reg r20s_r7) (.cond (.t 36) (.exit 1) .skip)) (.seq (.seq (.reg r20s_r8) (.cond (.t 42) (.reg r20s_r9) .skip)) (.reg r20s_r10)))) (.reg r20s_r11)))
def r20s_r12 : List AI := [⟨(some 59), none, (.op (.mv (.t 9)))⟩, ⟨(some 60), none, (.op (.mv (.t 10)))⟩, ⟨(some 4), none, (.op (.mv (.t 59)))⟩, ⟨(some 5), none, (.op (.mv (.t 60)))⟩]
def r20s_c : AC := (.seq (.reg r20s_r0) (.seq (.reg r20s_r1) (.seq (.reg r20s_r2) (.seq (.reg r20s_r3) (.seq (.reg r20s_r4) (.seq (.seq (.reg r20s_r5) (.block 0 (.loop r20s_l0))) (.seq (.reg r20s_r12) .ret)))))))
def r20s_res : List ARes := [(.tmp 4), (.tmp 5)]
set_option maxRecDepth 100000 in
theorem r20s_get : getF Tryz.prog 29 190000 [] = some ("gavotte/gavotteref20.sends", 61, r20s_c, r20s_res) := by kernel_rfl
def r20S_r0 : List AI := [⟨(some 2), none, (.op (.box 191002 4 (.t 0)))⟩, ⟨(some 4), none, (.op (.mv (.c .nils)))⟩]
def r20S_r1 : List AI := [⟨(some 7), none, (.op (.mv (.t 1)))⟩, ⟨(some 8), none, (.op (.ibin .lss (.t 7) (.c (.int .i64 0))))⟩, ⟨(some 9), none, (.op (.mv (.t 8)))⟩, ⟨(some 10), (some (9, false)), (.op (.mv (.t 1)))⟩, ⟨(some 11), (some (9, false)), (.op (.fld 0 (.t 2)))⟩, ⟨(some 12), (some (9, false)), (.op (.load none (.t 11)))⟩, ⟨(some 13), (some (9, false)), (.op (.len (.t 12)))⟩, ⟨(some 14), (some (9, false)), (.op (.ibin .geq (.t 10) (.t 13)))⟩, ⟨(some 15), none, (.op (.pick (.t 9) (.c (.bool true)) (.t 14)))⟩]
def r20S_r2 : List AI := [⟨(some 4), none, (.op (.mv (.c .nils)))⟩]
def r20S_r3 : List AI := [⟨(some 17), none, (.op (.load (some 4) (.t 2)))⟩, ⟨(some 18), none, (.op (.mv (.t 1)))⟩, ⟨(some 19), none, (.call (.c (.fn 29 [])) [(.t 17), (.t 18)])⟩, ⟨(some 16), none, (.op (.mv (.t 19)))⟩, ⟨(some 20), none, (.op (.ext (.t 16) 0))⟩, ⟨(some 21), none, (.op (.ext (.t 16) 1))⟩, ⟨(some 5), none, (.op (.mv (.t 20)))⟩, ⟨(some 6), none, (.op (.mv (.t 21)))⟩]
def r20S_r4 : List AI := [⟨(some 22), none, (.op (.mv (.t 5)))⟩, ⟨(some 4), none, (.op (.mv (.t 22)))⟩]
def r20S_c : AC := (.seq (.reg r20S_r0) (.seq (.seq (.reg r20S_r1) (.cond (.t 15) (.seq (.reg r20S_r2) .ret) .skip)) (.seq (.reg r20S_r3) (.seq (.reg r20S_r4) .ret))))
def r20S_res : List ARes := [(.tmp 4)]
set_option maxRecDepth 100000 in
theorem r20S_get : getF Tryz.prog 11 191000 [] = some ("gavotte/gavotteref20.Sends", 23, r20S_c, r20S_res) := by kernel_rfl
def r20A_r0 : List AI := [⟨(some 2), none, (.op (.box 192002 4 (.t 0)))⟩, ⟨(some 4), none, (.op (.mv (.c (.bool false))))⟩]
def r20A_r1 : List AI := [⟨(some 7), none, (.op (.mv (.t 1)))⟩, ⟨(some 8), none, (.op (.ibin .lss (.t 7) (.c (.int .i64 0))))⟩, ⟨(some 9), none, (.op (.mv (.t 8)))⟩, ⟨(some 10), (some (9, false)), (.op (.mv (.t 1)))⟩, ⟨(some 11), (some (9, false)), (.op (.fld 0 (.t 2)))⟩, ⟨(some 12), (some (9, false)), (.op (.load none (.t 11)))⟩, ⟨(some 13), (some (9, false)), (.op (.len (.t 12)))⟩, ⟨(some 14), (some (9, false)), (.op (.ibin .geq (.t 10) (.t 13)))⟩, ⟨(some 15), none, (.op (.pick (.t 9) (.c (.bool true)) (.t 14)))⟩]
def r20A_r2 : List AI := [⟨(some 4), none, (.op (.mv (.c (.bool false))))⟩]
def r20A_r3 : List AI := [⟨(some 17), none, (.op (.load (some 4) (.t 2)))⟩, ⟨(some 18), none, (.op (.mv (.t 1)))⟩, ⟨(some 19), none, (.call (.c (.fn 29 [])) [(.t 17), (.t 18)])⟩, ⟨(some 16), none, (.op (.mv (.t 19)))⟩, ⟨(some 20), none, (.op (.ext (.t 16) 0))⟩, ⟨(some 21), none, (.op (.ext (.t 16) 1))⟩, ⟨(some 5), none, (.op (.mv (.t 20)))⟩, ⟨(some 6), none, (.op (.mv (.t 21)))⟩]
def r20A_r4 : List AI := [⟨(some 22), none, (.op (.mv (.t 6)))⟩, ⟨(some 4), none, (.op (.mv (.t 22)))⟩]
def r20A_c : AC := (.seq (.reg r20A_r0) (.seq (.seq (.reg r20A_r1) (.cond (.t 15) (.seq (.reg r20A_r2) .ret) .skip)) (.seq (.reg r20A_r3) (.seq (.reg r20A_r4) .ret))))
def r20A_res : List ARes := [(.tmp 4)]
set_option maxRecDepth 100000 in
theorem r20A_get : getF Tryz.prog 17 192000 [] = some ("gavotte/gavotteref20.Arms", 23, r20A_c, r20A_res) := by kernel_rfl
attribute [simp] r20s_r0 r20s_r1 r20s_r2 r20s_r3 r20s_r4 r20s_r5 r20s_r6 r20s_r7 r20s_r8 r20s_r9 r20s_r10 r20s_r11 r20s_r12 r20s_res r20S_r0 r20S_r1 r20S_r2 r20S_r3 r20S_r4 r20S_res r20A_r0 r20A_r1 r20A_r2 r20A_r3 r20A_r4 r20A_res


theorem r20s_pc (p : Prg) (hp : flowV p = 0) (h : Nat) (hh : h < p.hs.length) : PC Tryz.prog 29 [p.av, iv h] (.tup [ints (putL [] (rawH p h)), .bool (arm1 p h)]) := by
  have hc := flowV_check hp
  have ht := (tells_eq hc (h : Int)).1
  obtain ⟨o, m, _, d1, d2, _⟩ := depthsV_ok hp hh
  have hcl := (codeOk_of hc (List.getElem_mem hh)).1
  refine pc_of_get r20s_get (by simp) _ (by simp) _ ?_
  unfold r20s_c
  simp
  refine call (rdep_pc p h (fun x hx => codeOk_of hc hx)) (by simp) ?_
  have e : (rdepV p h).1 = o := by have := congrArg Prod.fst (ht.symm.trans d1); exact this
  have er : rawH p h = rawS p.hs[h].code o p.hs[h].code.length := by unfold rawH; rw [List.getElem?_eq_getElem hh, d1]; rfl
  have ea : arm1 p h = rawA p.hs[h].code o p.hs[h].code.length := by unfold arm1; rw [List.getElem?_eq_getElem hh, d1]; rfl
  rw [er, ea, e]
  simp [hh]
  generalize hcode : p.hs[h].code = code at *
  refine loopN (fun i S => S.t 6 = ints o ∧ S.t 11 = .lst 2 (code.map Ins.av) ∧ S.t 12 = iv i ∧ IsW (S.t 9) (putL [] (rawS code o i)) ∧ S.t 10 = .bool (rawA code o i)) code.length ?_ ?_
  · exact ⟨by simp, by simp, by simp, .inr ⟨by simp, rfl⟩, by simp [rawA]⟩
  · rintro i S hi ⟨g6, g11, g12, g9, g10⟩
    by_cases hlt : i < code.length
    · have hw := wrap_succ i _ hlt (by omega)
      have hdl : i < o.length := by omega
      have r1 := rawS_succ hlt hdl
      have r2 := rawA_succ hlt hdl
      have hl := putL_len (rawS code o i) []
      have hl2 := rawS_len code o i
      simp only [List.length_nil] at hl
      rw [r1, r2, putL_append]
      generalize putL [] (rawS code o i) = w at *
      by_cases hd : o[i] < 0
      · have hd2 : ¬ 0 ≤ o[i] := by omega
        simp [r20s_l0, g6, g11, g12, ints, hlt, hdl, hd, hd2, hw]
        exact ⟨g9, g10⟩
      · have hd2 : 0 ≤ o[i] := by omega
        by_cases h22 : code[i].op = 22
        · simp [r20s_l0, g6, g11, g12, ints, hlt, hdl, hd, hd2, h22]
          refine call (put1_pc w code[i].a (by omega)) (by simp [g9.co0]) ?_
          cases hra : rawA code o i
          · simp [g10, hra, g11, g12, hlt, hw, h22]
            exact ⟨by simp [g6, ints], .inl rfl⟩
          · simp [g10, hra, g11, g12, hlt, hw]
            exact ⟨by simp [g6, ints], .inl rfl⟩
        · cases hra : rawA code o i
          · simp [r20s_l0, g6, g11, g12, ints, hlt, hdl, hd, hd2, h22, g10, hra, hw]
            exact g9
          · simp [r20s_l0, g6, g11, g12, ints, hlt, hdl, hd, hd2, h22, g10, hra, hw]
            exact g9
    · have e1 : i = code.length := by omega
      subst e1
      simp [r20s_l0, g11, g12]
      rcases g9 with g9 | ⟨g9, g9'⟩
      · simp [g9, g10]
      · rw [g9']; simp [g9, g10, ints]
theorem atI_snd (p : Prg) (h : Int) : atI (sndV p) h = if 0 ≤ h ∧ h < p.hs.length then putL [] (rawH p h.toNat) else [] := by
  rw [sndV_put]
  unfold atI
  by_cases h0 : 0 ≤ h
  · rw [if_pos h0]
    by_cases h1 : h < p.hs.length
    · rw [if_pos ⟨h0, h1⟩, List.getElem?_map, List.getElem?_range (by omega)]; rfl
    · rw [if_neg (fun q => h1 q.2), List.getElem?_eq_none (by simp; omega)]; rfl
  · rw [if_neg h0, if_neg (fun q => h0 q.1)]
theorem atB_arms (p : Prg) (h : Int) : atB (armsV p) h = if 0 ≤ h ∧ h < p.hs.length then arm1 p h.toNat else false := by
  unfold atB armsV
  by_cases h0 : 0 ≤ h
  · rw [if_pos h0]
    by_cases h1 : h < p.hs.length
    · rw [if_pos ⟨h0, h1⟩, List.getElem?_map, List.getElem?_range (by omega)]; rfl
    · rw [if_neg (fun q => h1 q.2), List.getElem?_eq_none (by simp; omega)]; rfl
  · rw [if_neg h0, if_neg (fun q => h0 q.1)]
theorem r20S_pc (p : Prg) (hp : flowV p = 0) (h : Int) : PC Tryz.prog 11 [p.av, iv h] (ints (atI (sndV p) h)) := by
  obtain ⟨c1, _⟩ := checkV_zero (flowV_check hp)
  refine pc_of_get r20S_get (by simp) _ (by simp) _ ?_
  unfold r20S_c
  rw [atI_snd]
  by_cases h0 : h < 0
  · have q : ¬ (0 ≤ h ∧ h < p.hs.length) := fun q => by omega
    simp [h0, q, ints]
  · by_cases h1 : (p.hs.length : Int) ≤ h
    · have q : ¬ (0 ≤ h ∧ h < p.hs.length) := fun q => by omega
      simp [h0, h1, q, ints]
    · obtain ⟨n, rfl⟩ : ∃ n : Nat, h = n := ⟨h.toNat, by omega⟩
      have q : 0 ≤ (n : Int) ∧ (n : Int) < p.hs.length := ⟨by omega, by omega⟩
      have qn : n < p.hs.length := by omega
      simp [h0, h1, qn]
      refine call (r20s_pc p hp n (by omega)) (by simp) ?_
      simp [qn]
theorem r20A_pc (p : Prg) (hp : flowV p = 0) (h : Int) : PC Tryz.prog 17 [p.av, iv h] (.bool (atB (armsV p) h)) := by
  obtain ⟨c1, _⟩ := checkV_zero (flowV_check hp)
  refine pc_of_get r20A_get (by simp) _ (by simp) _ ?_
  unfold r20A_c
  rw [atB_arms]
  by_cases h0 : h < 0
  · have q : ¬ (0 ≤ h ∧ h < p.hs.length) := fun q => by omega
    simp [h0, q]
  · by_cases h1 : (p.hs.length : Int) ≤ h
    · have q : ¬ (0 ≤ h ∧ h < p.hs.length) := fun q => by omega
      simp [h0, h1, q]
    · obtain ⟨n, rfl⟩ : ∃ n : Nat, h = n := ⟨h.toNat, by omega⟩
      have q : 0 ≤ (n : Int) ∧ (n : Int) < p.hs.length := ⟨by omega, by omega⟩
      have qn : n < p.hs.length := by omega
      simp [h0, h1, qn]
      refine call (r20s_pc p hp n (by omega)) (by simp) ?_
      simp [qn]

end Go.Gv

/- Plain law: what a run sends, and whether it arms, is what a plan tells. Conditions: those that each law names. -/
set_option linter.unusedVariables false
set_option linter.unusedSimpArgs false
namespace Go.Gv
open Go.Proofs


theorem ite_q {c : Prop} [Decidable c] {a b : Mach × Int} {Q : Mach → Prop} (h1 : Q a.1) (h2 : Q b.1) : Q (if c then a else b).1 := by
  by_cases h : c
  · rw [if_pos h]; exact h1
  · rw [if_neg h]; exact h2
theorem doV_sent (F : Fx) (i : Ins) (m : Mach) : ∀ n ∈ (doV F i m).1.notes, n ∈ m.notes ∨ (i.op = 22 ∧ n.hd = i.a) := by
  by_cases h22 : i.op = 22
  · by_cases hc : top m.st < 0 ∨ top m.st ≥ F.p.as.length
    · have e : (doV F i m).1.notes = m.notes := by simp [doV, h22, hc]
      rw [e]; exact fun n hn => .inl hn
    · intro n hn
      simp [doV, h22, hc] at hn
      rcases hn with q | q
      · exact .inl q
      · exact .inr ⟨h22, by rw [q]⟩
  · have e : (doV F i m).1.notes = m.notes := by
      unfold doV
      rw [if_neg h22]
      repeat' first | rfl | apply ite_q (Q := fun x => x.notes = m.notes)
    rw [e]; exact fun n hn => .inl hn
theorem doV_arm (F : Fx) (i : Ins) (m : Mach) : (doV F i m).1.armed = true → m.armed = true ∨ i.op = 23 := by
  by_cases h23 : i.op = 23
  · exact fun _ => .inr h23
  · intro h
    left
    revert h
    unfold doV
    rw [if_neg h23]
    repeat' first | exact fun q => q | exact fun q => (by cases q) | apply ite_q (Q := fun x => x.armed = true → m.armed = true)
theorem run_law {F : Fx} {code : List Ins} (h : RFix F code) {Q : Nt → Prop} {A : Prop} (hQ : ∀ (a : Nat) (d : Int) (i : Ins), Rch F.p.hs code a d → code[a]? = some i → i.op = 22 → ∀ n : Nt, n.hd = i.a → Q n)
    (hA : ∀ (a : Nat) (d : Int) (i : Ins), Rch F.p.hs code a d → code[a]? = some i → i.op = 23 → A) : ∀ (f : Nat) (m : Mach) (s : Int), MI F code m s → (∀ n ∈ m.notes, Q n) → (m.armed = true → A) →
      ∀ m' d s', runG F code f m s = (some m', d, s') → (∀ n ∈ m'.notes, Q n) ∧ (m'.armed = true → A)
  | 0, m, s, _, _, _, m', d, s', hr => by simp [runG] at hr
  | f + 1, m, s, hm, hn, ha, m', d, s', hr => by
    unfold runG at hr
    by_cases hp : 0 ≤ m.pc ∧ m.pc < code.length
    · rw [if_pos hp] at hr
      by_cases hs : s < F.p.fuel
      · rw [if_pos hs] at hr
        have hlt : m.pc.toNat < code.length := by omega
        have hi : code[m.pc.toNat]? = some code[m.pc.toNat] := List.getElem?_eq_getElem hlt
        rw [hi] at hr
        simp only at hr
        by_cases hz : (doV F code[m.pc.toNat] m).2 = 0
        · rw [if_neg (by simpa using hz)] at hr
          refine run_law h hQ hA f _ _ (h.next hm hp hs hi hz) (fun n hn' => ?_) (fun q => ?_) m' d s' hr
          · rcases doV_sent F _ m n hn' with q | ⟨q1, q2⟩
            · exact hn n q
            · exact hQ _ _ _ (hm.st hp.1) hi q1 n q2
          · rcases doV_arm F _ m q with r | r
            · exact ha r
            · exact hA _ _ _ (hm.st hp.1) hi r
        · rw [if_pos hz] at hr; cases hr
      · rw [if_neg hs] at hr; cases hr
    · rw [if_neg hp] at hr
      cases hr
      exact ⟨hn, ha⟩
theorem run_len (F : Fx) (code : List Ins) : ∀ (f : Nat) (m : Mach) (s : Int) (m' : Mach) (d s' : Int), runG F code f m s = (some m', d, s') → m'.notes.length ≤ m.notes.length + f
  | 0, m, s, m', d, s', hr => by simp [runG] at hr
  | f + 1, m, s, m', d, s', hr => by
    unfold runG at hr
    split at hr
    · split at hr
      · split at hr
        · split at hr
          · cases hr
          · have := run_len F code f _ _ m' d s' hr
            have := doV_notes F ‹Ins› m
            omega
        · cases hr
      · cases hr
    · cases hr; omega
theorem zip_mem {code : List Ins} {o : List Int} {a : Nat} {i : Ins} {d : Int} (hi : code[a]? = some i) (hd : o[a]? = some d) : (i, d) ∈ (code.zip o).take code.length := by
  rw [List.take_of_length_le (by simp; omega)]
  refine List.mem_of_getElem? (i := a) ?_
  rw [List.getElem?_zip_eq_some]
  exact ⟨hi, hd⟩
theorem runR_law {p : Prg} {who : Int} {l : Lcl} {h : Int} {args : List Int} (hm : mayV p who l h args) : (∀ n ∈ (runR p who l h args).notes, n.hd ∈ atI (sndV p) h) ∧ ((runR p who l h args).l.armed = true → l.armed = true ∨ atB (armsV p) h = true) := by
  obtain ⟨x, hx, hmem, hc, hfix, hmi, _, _, _⟩ := hm.ro
  have hm0 := hm
  obtain ⟨hf, _, _, h4, h5, _, _, _⟩ := hm0
  have hlt : h.toNat < p.hs.length := by omega
  have hxe : p.hs[h.toNat] = x := by rw [List.getElem?_eq_getElem hlt] at hx; exact Option.some.inj hx
  obtain ⟨o, mo, _, d1, d2, hg⟩ := depthsV_ok hf hlt
  rw [hxe] at d2 hg
  have er : rawH p h.toNat = rawS x.code o x.code.length := by unfold rawH; rw [hx, d1]; rfl
  have ea : arm1 p h.toNat = rawA x.code o x.code.length := by unfold arm1; rw [hx, d1]; rfl
  have hq : 0 ≤ h ∧ h < p.hs.length := ⟨h4, h5⟩
  have hQ : ∀ (a : Nat) (d : Int) (i : Ins), Rch p.hs x.code a d → x.code[a]? = some i → i.op = 22 → ∀ n : Nt, n.hd = i.a → n.hd ∈ atI (sndV p) h := by
    intro a d i hr hi ho n hn
    obtain ⟨g1, g2⟩ := hg.rch hr
    rw [atI_snd, if_pos hq, putL_mem, er, hn]
    refine .inr (List.mem_filterMap.2 ⟨(i, d), zip_mem hi g1, ?_⟩)
    rw [if_pos ⟨g2, ho⟩]
  have hA : ∀ (a : Nat) (d : Int) (i : Ins), Rch p.hs x.code a d → x.code[a]? = some i → i.op = 23 → l.armed = true ∨ atB (armsV p) h = true := by
    intro a d i hr hi ho
    obtain ⟨g1, g2⟩ := hg.rch hr
    right
    rw [atB_arms, if_pos hq, ea]
    exact List.any_eq_true.2 ⟨(i, d), zip_mem hi g1, by simp [g2, ho]⟩
  have hrun := run_law (F := fxOf p who l args) (code := x.code) hfix (Q := fun n => n.hd ∈ atI (sndV p) h) (A := l.armed = true ∨ atB (armsV p) h = true) hQ hA (p.fuel.toNat + 1) (m0Of l) 0 hmi (by simp [m0Of]) (fun q => .inl (by simpa [m0Of] using q))
  have e : runR p who l h args = goR l (runG (fxOf p who l args) x.code (p.fuel.toNat + 1) (m0Of l) 0) := by
    unfold runR; rw [if_pos hm, hx]; rfl
  rw [e]
  rcases hr : runG (fxOf p who l args) x.code (p.fuel.toNat + 1) (m0Of l) 0 with ⟨om, d, s⟩
  cases om with
  | none =>
    simp only [goR]
    exact ⟨by simp, fun q => .inl q⟩
  | some m' =>
    simp only [goR]
    exact hrun m' d s hr
theorem runR_len {p : Prg} {who : Int} {l : Lcl} {h : Int} {args : List Int} (hm : mayV p who l h args) : (runR p who l h args).notes.length ≤ 300 := by
  obtain ⟨x, hx, hmem, hc, hfix, hmi, h1, h2, _⟩ := hm.ro
  have e : runR p who l h args = goR l (runG (fxOf p who l args) x.code (p.fuel.toNat + 1) (m0Of l) 0) := by
    unfold runR; rw [if_pos hm, hx]; rfl
  rw [e]
  rcases hr : runG (fxOf p who l args) x.code (p.fuel.toNat + 1) (m0Of l) 0 with ⟨om, d, s⟩
  cases om with
  | none => simp [goR]
  | some m' =>
    have := run_len _ _ _ _ _ _ _ _ hr
    simp [m0Of] at this
    simp only [goR]
    omega
theorem snd_up (p : Prg) (h : Int) : Up (atI (sndV p) h) := by
  rw [atI_snd]
  split
  · exact putL_up (by simp [Up])
  · simp [Up]
theorem snd_rea {p : Prg} (hp : flowV p = 0) {h x : Int} (hx : x ∈ atI (sndV p) h) : x ∈ atI (reaV p) h := by
  by_cases hh : 0 ≤ h ∧ h < p.hs.length
  · rw [reaV_at, if_pos hh]
    refine (closedV_mem (sndV_in hp) ?_ x).2 (.base hx)
    rw [sndV_at p h hh]; exact sndOf_in (sndV_in hp) h
  · rw [sndV_out p h hh] at hx; simp at hx

end Go.Gv

/- The law ReachRuns answers true. No condition. -/
set_option linter.unusedVariables false
set_option linter.unusedSimpArgs false
namespace Go.Gv
open Go.Proofs

def rruns_r0 : List AI := [⟨(some 5), none, (.op (.box 196005 4 (.t 0)))⟩, ⟨(some 7), none, (.op (.box 196007 5 (.t 2)))⟩, ⟨(some 10), none, (.op (.mv (.c (.bool false))))⟩]
def rruns_r1 : List AI := [⟨(some 18), none, (.op (.load (some 4) (.t 5)))⟩, ⟨(some 19), none, (.call (.c (.fn 5 [])) [(.t 18)])⟩, ⟨(some 20), none, (.op (.not (.t 19)))⟩, ⟨(some 21), none, (.op (.mv (.t 20)))⟩, ⟨(some 22), (some (21, false)), (.op (.fld 0 (.t 7)))⟩, ⟨(some 23), (some (21, false)), (.op (.load none (.t 22)))⟩, ⟨(some 24), (some (21, false)), (.op (.len (.t 23)))⟩, ⟨(some 25), (some (21, false)), (.op (.ibin .gtr (.t 24) (.c (.int .i64 10))))⟩, ⟨(some 26), none, (.op (.pick (.t 21) (.c (.bool true)) (.t 25)))⟩, ⟨(some 27), none, (.op (.mv (.t 26)))⟩, ⟨(some 28), (some (27, false)), (.op (.mv (.t 4)))⟩, ⟨(some 29), (some (27, false)), (.op (.len (.t 28)))⟩, ⟨(some 30), (some (27, false)), (.op (.ibin .gtr (.t 29) (.c (.int .i64 6))))⟩, ⟨(some 31), none, (.op (.pick (.t 27) (.c (.bool true)) (.t 30)))⟩, ⟨(some 32), none, (.op (.mv (.t 31)))⟩, ⟨(some 33), (some (32, false)), (.op (.load (some 4) (.t 5)))⟩, ⟨(some 34), (some (32, false)), (.op (.mv (.t 1)))⟩, ⟨(some 35), (some (32, false)), (.op (.load (some 5) (.t 7)))⟩, ⟨(some 36), (some (32, false)), (.op (.mv (.t 3)))⟩, ⟨(some 37), (some (32, false)), (.op (.mv (.t 4)))⟩, ⟨(some 38), (some (32, false)), (.call (.c (.fn 18 [])) [(.t 33), (.t 34), (.t 35), (.t 36), (.t 37)])⟩, ⟨(some 39), (some (32, false)), (.op (.not (.t 38)))⟩, ⟨(some 40), none, (.op (.pick (.t 32) (.c (.bool true)) (.t 39)))⟩]
def rruns_r2 : List AI := [⟨(some 41), none, (.call (.c (.fn 6 [])) [])⟩, ⟨(some 10), none, (.op (.mv (.t 41)))⟩]
def rruns_r3 : List AI := [⟨(some 43), none, (.op (.load (some 4) (.t 5)))⟩, ⟨(some 44), none, (.call (.c (.fn 7 [])) [(.t 43)])⟩, ⟨(some 42), none, (.op (.mv (.t 44)))⟩, ⟨(some 45), none, (.op (.ext (.t 42) 0))⟩, ⟨(some 46), none, (.op (.ext (.t 42) 1))⟩, ⟨(some 11), none, (.op (.mv (.t 45)))⟩, ⟨(some 12), none, (.op (.mv (.t 46)))⟩]
def rruns_r4 : List AI := [⟨(some 47), none, (.op (.mv (.t 12)))⟩, ⟨(some 48), none, (.op (.ibin .neq (.t 47) (.c (.int .i64 0))))⟩, ⟨(some 49), none, (.op (.mv (.t 48)))⟩, ⟨(some 50), (some (49, false)), (.op (.mv (.t 11)))⟩, ⟨(some 51), (some (49, false)), (.nq 1 false (.t 50))⟩, ⟨(some 52), none, (.op (.pick (.t 49) (.c (.bool true)) (.t 51)))⟩]
def rruns_r5 : List AI := [⟨(some 10), none, (.op (.mv (.c (.bool false))))⟩]
def rruns_r6 : List AI := [⟨(some 53), none, (.op (.load (some 4) (.t 5)))⟩, ⟨(some 54), none, (.op (.mv (.t 1)))⟩, ⟨(some 55), none, (.op (.load (some 5) (.t 7)))⟩, ⟨(some 56), none, (.op (.mv (.t 3)))⟩, ⟨(some 57), none, (.op (.mv (.t 4)))⟩, ⟨(some 58), none, (.call (.c (.fn 19 [])) [(.t 53), (.t 54), (.t 55), (.t 56), (.t 57)])⟩, ⟨(some 13), none, (.op (.new 196013 7 (.agg [.nils, (.bool false), (.int .i64 0), (.int .i64 0), (.int .i64 0), .nils, (.int .i64 0)])))⟩, ⟨none, none, (.op (.store 7 (.t 13) (.t 58)))⟩]
def rruns_r7 : List AI := [⟨(some 59), none, (.op (.mv (.t 11)))⟩, ⟨(some 60), none, (.op (.mv (.t 3)))⟩, ⟨(some 61), none, (.call (.c (.fn 10 [])) [(.t 59), (.t 60)])⟩, ⟨(some 62), none, (.op (.mv (.t 11)))⟩, ⟨(some 63), none, (.op (.mv (.t 3)))⟩, ⟨(some 64), none, (.call (.c (.fn 12 [])) [(.t 62), (.t 63)])⟩, ⟨(some 14), none, (.op (.mv (.t 61)))⟩, ⟨(some 15), none, (.op (.mv (.t 64)))⟩]
def rruns_r8 : List AI := [⟨(some 16), none, (.op (.mv (.c (.int .i64 0))))⟩]
def rruns_r9 : List AI := [⟨(some 65), none, (.op (.mv (.t 16)))⟩, ⟨(some 66), none, (.op (.fld 5 (.t 13)))⟩, ⟨(some 67), none, (.op (.load none (.t 66)))⟩, ⟨(some 68), none, (.op (.len (.t 67)))⟩, ⟨(some 69), none, (.op (.ibin .lss (.t 65) (.t 68)))⟩]
def rruns_r10 : List AI := [⟨(some 72), none, (.op (.mv (.t 14)))⟩, ⟨(some 73), none, (.op (.fld 5 (.t 13)))⟩, ⟨(some 74), none, (.op (.load none (.t 73)))⟩, ⟨(some 75), none, (.op (.mv (.t 16)))⟩, ⟨(some 76), none, (.op (.idx 3 (.t 74) (.t 75)))⟩, ⟨(some 77), none, (.op (.fld 1 (.t 76)))⟩, ⟨(some 78), none, (.op (.load none (.t 77)))⟩, ⟨(some 79), none, (.op (.bsl 196079 1 3 1 (.int .i64 0) [(0, (.t 78))]))⟩, ⟨(some 80), none, (.call (.c (.fn 20 [])) [(.t 72), (.t 79)])⟩, ⟨(some 81), none, (.op (.not (.t 80)))⟩]
def rruns_r11 : List AI := [⟨(some 10), none, (.op (.mv (.c (.bool false))))⟩]
def rruns_r12 : List AI := [⟨(some 70), none, (.op (.mv (.t 16)))⟩, ⟨(some 71), none, (.op (.ibin .add (.t 70) (.c (.int .i64 1))))⟩, ⟨(some 16), none, (.op (.mv (.t 71)))⟩]
def rruns_l0 : AC := (.seq (.seq (.reg rruns_r9) (.cond (.t 69) .skip (.exit 0))) (.seq (.block 1 (.seq (.reg rruns_r10) (.cond (.t 81) (.seq (.reg rruns_r11) .ret) .skip))) (.reg rruns_r12)))
def rruns_r13 : List AI := [⟨(some 17), none, (.op (.mv (.c (.int .i64 0))))⟩]
def rruns_r14 : List AI := [⟨(some 82), none, (.op (.mv (.t 17)))⟩, ⟨(some 83), none, (.op (.mv (.t 14)))⟩, ⟨(some 84), none, (.op (.len (.t 83)))⟩, ⟨(some 85), none, (.op (.ibin .lss (.t 82) (.t 84)))⟩]
def rruns_r15 : List AI := [⟨(some 88), none, (.op (.mv (.t 15)))⟩, ⟨(some 89), none, (.op (.mv (.t 14)))⟩, ⟨(some 90), none, (.op (.mv (.t 17)))⟩, ⟨(some 91), none, (.op (.mv (.t 17)))⟩, ⟨(some 92), none, (.op (.ibin .add (.t 91) (.c (.int .i64 1))))⟩, ⟨(some 93), none, (.op (.slice (some 1) (.t 89) (some (.t 90)) (some (.t 92))))⟩, ⟨(some 94), none, (.call (.c (.fn 20 [])) [(.t 88), (.t 93)])⟩, ⟨(some 95), none, (.op (.not (.t 94)))⟩, ⟨(some 96), none, (.op (.mv (.t 95)))⟩, ⟨(some 97), (some (96, false)), (.op (.mv (.t 17)))⟩, ⟨(some 98), (some (96, false)), (.op (.ibin .gtr (.t 97) (.c (.int .i64 0))))⟩, ⟨(some 99), (some (96, false)), (.op (.mv (.t 98)))⟩, ⟨(some 100), (some (99, true)), (.op (.mv (.t 14)))⟩, ⟨(some 101), (some (99, true)), (.op (.mv (.t 17)))⟩, ⟨(some 102), (some (99, true)), (.op (.ibin .sub (.t 101) (.c (.int .i64 1))))⟩, ⟨(some 103), (some (99, true)), (.op (.idx 1 (.t 100) (.t 102)))⟩, ⟨(some 104), (some (99, true)), (.op (.load none (.t 103)))⟩, ⟨(some 105), (some (99, true)), (.op (.mv (.t 14)))⟩, ⟨(some 106), (some (99, true)), (.op (.mv (.t 17)))⟩, ⟨(some 107), (some (99, true)), (.op (.idx 1 (.t 105) (.t 106)))⟩, ⟨(some 108), (some (99, true)), (.op (.load none (.t 107)))⟩, ⟨(some 109), (some (99, true)), (.op (.ibin .geq (.t 104) (.t 108)))⟩, ⟨(some 110), (some (96, false)), (.op (.pick (.t 99) (.t 109) (.c (.bool false))))⟩, ⟨(some 111), none, (.op (.pick (.t 96) (.c (.bool true)) (.t 110)))⟩]
def rruns_p15 : List (List Nat) := [[], [], [], [], [3], [1, 2, 4, 3], [0, 5, 1, 2, 4, 3], [6, 0, 5, 1, 2, 4, 3], [7, 6, 0, 5, 1, 2, 4, 3], [8, 7, 6, 0, 5, 1, 2, 4, 3], [9, 8, 7, 6, 0, 5, 1, 2, 4, 3], [10, 8, 9, 7, 6, 0, 5, 1, 2, 4, 3], [11, 10, 8, 9, 7, 6, 0, 5, 1, 2, 4, 3], [11, 10, 8, 9, 7, 6, 0, 5, 1, 2, 4, 3], [13, 11, 10, 8, 9, 7, 6, 0, 5, 1, 2, 4, 3], [12, 14, 11, 10, 8, 9, 7, 6, 0, 5, 1, 2, 4, 3, 13], [15, 11, 12, 14, 10, 8, 9, 7, 6, 0, 5, 1, 2, 4, 3, 13], [11, 10, 8, 9, 7, 6, 0, 5, 1, 2, 4, 3], [11, 10, 8, 9, 7, 6, 0, 5, 1, 2, 4, 3], [17, 18, 11, 10, 8, 9, 7, 6, 0, 5, 1, 2, 4, 3], [19, 11, 17, 18, 10, 8, 9, 7, 6, 0, 5, 1, 2, 4, 3], [16, 20, 11, 15, 12, 14, 10, 8, 9, 7, 6, 0, 5, 1, 2, 4, 3, 13, 19, 17, 18], [11, 21, 8, 10, 9, 7, 6, 0, 5, 1, 2, 4, 3, 16, 20, 15, 12, 14, 13, 19, 17, 18], [8, 22, 7, 6, 0, 5, 1, 2, 4, 3, 11, 21, 10, 9, 16, 20, 15, 12, 14, 13, 19, 17, 18]]
def rruns_r16 : List AI := [⟨(some 10), none, (.op (.mv (.c (.bool false))))⟩]
def rruns_r17 : List AI := [⟨(some 86), none, (.op (.mv (.t 17)))⟩, ⟨(some 87), none, (.op (.ibin .add (.t 86) (.c (.int .i64 1))))⟩, ⟨(some 17), none, (.op (.mv (.t 87)))⟩]
def rruns_l1 : AC := (.seq (.seq (.reg rruns_r14) (.cond (.t 85) .skip (.exit 2))) (.seq (.block 3 (.seq (.regd rruns_r15 rruns_p15) (.cond (.t 111) (.seq (.reg rruns_r16) .ret) .skip))) (.reg rruns_r17)))
def rruns_r18 : List AI := [⟨(some 112), none, (.op (.mv (.t 11)))⟩, ⟨(some 113), none, (.op (.mv (.t 3)))⟩, ⟨(some 114), none, (.call (.c (.fn 16 [])) [(.t 112), (.t 113)])⟩, ⟨(some 115), none, (.op (.mv (.t 114)))⟩, ⟨(some 116), (some (115, false)), (.op (.fld 1 (.t 7)))⟩, ⟨(some 117), (some (115, false)), (.op (.load none (.t 116)))⟩, ⟨(some 118), none, (.op (.pick (.t 115) (.c (.bool true)) (.t 117)))⟩, ⟨(some 119), none, (.op (.mv (.t 118)))⟩, ⟨(some 120), (some (119, false)), (.op (.fld 0 (.t 13)))⟩, ⟨(some 121), (some (119, false)), (.op (.fld 1 (.t 120)))⟩, ⟨(some 122), (some (119, false)), (.op (.load none (.t 121)))⟩, ⟨(some 123), (some (119, false)), (.op (.not (.t 122)))⟩, ⟨(some 124), none, (.op (.pick (.t 119) (.c (.bool true)) (.t 123)))⟩, ⟨(some 125), none, (.op (.mv (.t 124)))⟩, ⟨(some 126), (some (125, true)), (.call (.c (.fn 6 [])) [])⟩, ⟨(some 127), none, (.op (.pick (.t 125) (.t 126) (.c (.bool false))))⟩, ⟨(some 10), none, (.op (.mv (.t 127)))⟩]
def rruns_c : AC := (.seq (.reg rruns_r0) (.seq (.seq (.reg rruns_r1) (.cond (.t 40) (.seq (.reg rruns_r2) .ret) .skip)) (.seq (.reg rruns_r3) (.seq (.seq (.reg rruns_r4) (.cond (.t 52) (.seq (.reg rruns_r5) .ret) .skip)) (.seq (.reg rruns_r6) (.seq (.reg rruns_r7) (.seq (.seq (.reg rruns_r8) (.block 0 (.loop rruns_l0))) (.seq (.seq (.reg rruns_r13) (.block 2 (.loop rruns_l1))) (.seq (.reg rruns_r18) .ret)))))))))
def rruns_res : List ARes := [(.tmp 10)]
set_option maxRecDepth 100000 in
theorem rruns_get : getF Tryz.prog 4 196000 [] = some ("gavotte/gavottelaw20.ReachRuns", 128, rruns_c, rruns_res) := by kernel_rfl
attribute [simp] rruns_r0 rruns_r1 rruns_r2 rruns_r3 rruns_r4 rruns_r5 rruns_r6 rruns_r7 rruns_r8 rruns_r9 rruns_r10 rruns_r11 rruns_r12 rruns_r13 rruns_r14 rruns_r15 rruns_p15 rruns_r16 rruns_r17 rruns_r18 rruns_res


structure RnS (st : Nat) (p : Prg) (l : Lcl) (h : Int) (R : Res) (s a : List Int) (S : St) : Prop where
  t3 : S.t 3 = iv h
  t7 : ∃ s7, S.t 7 = .ptr 196007 s7 5 0 0 ∧ S.blk 196007 = some ⟨s7, 5, [l.av]⟩
  t11 : S.t 11 = .ptr 170013 st 12 0 0
  t13 : ∃ s13, S.t 13 = .ptr 196013 s13 7 0 0 ∧ S.blk 196013 = some ⟨s13, 7, [R.av]⟩
  t14 : S.t 14 = ints s
  t15 : S.t 15 = ints a
  pl : PlanM 170013 st p S
theorem rruns_in0 (st : Nat) (p : Prg) (l : Lcl) (h : Int) (R : Res) (s a : List Int) (hs : s.length ≤ 1000) (hn : R.notes.length ≤ 1000) (hin : ∀ n ∈ R.notes, n.hd ∈ s) {κ : Ex → St → Prop} (hκ : ∀ S, RnS st p l h R s a S → κ (.exit 0) S) (S : St)
    (hS : RnS st p l h R s a S) (h16 : S.t 16 = iv 0) : LoopG Tryz.prog rruns_l0 κ S .mk := by
  refine loopN (fun i S => RnS st p l h R s a S ∧ S.t 16 = iv i) R.notes.length ⟨hS, by simpa using h16⟩ ?_
  clear hS h16 S
  rintro i S hi ⟨⟨t3, ⟨s7, t7, b7⟩, t11, ⟨s13, t13, b13⟩, t14, t15, pl⟩, h16⟩
  by_cases hlt : i < R.notes.length
  · have hw := wrap_succ i _ hlt (by omega)
    simp [rruns_l0, t13, b13, Res.av, h16, hlt, t14]
    refine call (meets_pc s [R.notes[i].hd] (by omega) (by simp)) (by simp [ints]) ?_
    rw [meetsV_one (hin _ (List.getElem_mem hlt))]
    simp [h16, hw, hlt]
    exact ⟨by simp [t3], ⟨s7, by simp [t7], by simp [b7]⟩, by simp [t11], ⟨s13, by simp [t13], by simp [b13, Res.av]⟩, by simp [t14], by simp [t15], pl⟩
  · have e1 : i = R.notes.length := by omega
    subst e1
    simp [rruns_l0, t13, b13, Res.av, h16]
    exact hκ _ ⟨by simp [t3], ⟨s7, by simp [t7], by simp [b7]⟩, by simp [t11], ⟨s13, by simp [t13], by simp [b13, Res.av]⟩, by simp [t14], by simp [t15], pl⟩
theorem rruns_in1 (st : Nat) (p : Prg) (l : Lcl) (h : Int) (R : Res) (s a : List Int) (hs : s.length ≤ 1000) (ha : a.length ≤ 1000) (hup : Up s) (hin : ∀ x ∈ s, x ∈ a) {κ : Ex → St → Prop} (hκ : ∀ S, RnS st p l h R s a S → κ (.exit 2) S) (S : St)
    (hS : RnS st p l h R s a S) (h17 : S.t 17 = iv 0) : LoopG Tryz.prog rruns_l1 κ S .mk := by
  refine loopN (fun i S => RnS st p l h R s a S ∧ S.t 17 = iv i) s.length ⟨hS, by simpa using h17⟩ ?_
  clear hS h17 S
  rintro i S hi ⟨⟨t3, ⟨s7, t7, b7⟩, t11, ⟨s13, t13, b13⟩, t14, t15, pl⟩, h17⟩
  by_cases hlt : i < s.length
  · have hw := wrap_succ i _ hlt (by omega)
    have hsl : List.drop i (List.take (i + 1) (s.map iv)) = [iv s[i]] := by
      rw [List.take_succ_eq_append_getElem (by simpa using hlt), List.drop_append_of_le_length (by simp; omega), List.drop_of_length_le (by simp; omega)]
      simp
    have h0i : (0 : Int) ≤ (i : Int) + 1 := by omega
    have hmt := meetsV_one (hin _ (List.getElem_mem hlt))
    by_cases hi0 : i = 0
    · subst hi0
      have w1 : IntKind.i64.wrap 1 = 1 := by decide
      have hsl0 : List.take 1 (s.map iv) = [iv s[0]] := by simpa using hsl
      simp [rruns_l1, t14, t15, h17, ints, hlt, w1, hsl0, show 1 ≤ s.length by omega]
      refine calld (meets_pc a [s[0]] (by omega) (by simp)) (by simp [ints]) ?_
      rw [hmt]
      simp [h17, w1, t14, ints, hlt]
      exact ⟨by simp [t3], ⟨s7, by simp [t7], by simp [b7]⟩, by simp [t11], ⟨s13, by simp [t13], by simp [b13]⟩, by simp [t14, ints], by simp [t15, ints], pl⟩
    · have hpos : 0 < i := by omega
      have hk : i - 1 < s.length := by omega
      have hwk : IntKind.i64.wrap ((i : Int) - 1) = ((i - 1 : Nat) : Int) := by rw [wrap_in _ (by omega) (by omega)]; omega
      have hlt2 : s[i - 1] < s[i] := (List.pairwise_iff_getElem.1 hup) (i - 1) i hk hlt (by omega)
      have hlt3 : ¬ s[i] ≤ s[i - 1] := by omega
      simp [rruns_l1, t14, t15, h17, ints, hlt, hw, hsl, h0i, hpos, hwk, hk, show i + 1 ≤ s.length by omega]
      refine calld (meets_pc a [s[i]] (by omega) (by simp)) (by simp [ints]) ?_
      rw [hmt]
      simp [h17, hw, t14, ints, hlt, hpos, hwk, hk, hlt3]
      exact ⟨by simp [t3], ⟨s7, by simp [t7], by simp [b7]⟩, by simp [t11], ⟨s13, by simp [t13], by simp [b13]⟩, by simp [t14, ints], by simp [t15, ints], pl⟩
  · have e1 : i = s.length := by omega
    subst e1
    simp [rruns_l1, t14, h17, ints]
    exact hκ _ ⟨by simp [t3], ⟨s7, by simp [t7], by simp [b7]⟩, by simp [t11], ⟨s13, by simp [t13], by simp [b13]⟩, by simp [t14, ints], by simp [t15], pl⟩
theorem reachRuns_pc (p : Prg) (who : Int) (l : Lcl) (h : Int) (args : List Int) : PC Tryz.prog 4 [p.av, iv who, l.av, iv h, ints args] (.bool true) := by
  refine pc_of_get rruns_get (by simp) _ (by simp) _ ?_
  unfold rruns_c
  simp
  refine call (small_pc p) (by simp) ?_
  by_cases hsm : smallV p
  rotate_left
  · simp [hsm]
    refine awake20_v (fun S ht hc => ?_)
    simp [ht]
  by_cases c1 : (10 : Int) < l.regs.length
  · simp [hsm, Lcl.av, c1, ints]
    refine awake20_v (fun S ht hc => ?_)
    simp [ht]
  by_cases c2 : (6 : Int) < args.length
  · simp [hsm, Lcl.av, c1, c2, ints]
    refine awake20_v (fun S ht hc => ?_)
    simp [ht]
  simp [hsm, Lcl.av, c1, c2, ints]
  refine call (may_pc p who l h args) (by simp [Lcl.av, ints]) ?_
  by_cases hm : mayV p who l h args
  rotate_left
  · simp [hm]
    refine awake20_v (fun S ht hc => ?_)
    simp [ht]
  simp [hm]
  have hrl := runR_law hm
  have hrn := runR_len hm
  refine pnew_v p (fun hf S st hP hB hK ht hc => ?_) (fun hf => absurd hm.1 hf)
  have b5 := hB 196005 (by simp) (by simp)
  have b7 := hB 196007 (by simp) (by simp)
  simp at b5 b7
  have hrb := atI_bound (reaV_bound hf) h
  have hsb := atI_bound (sndV_bound hf) h
  simp [ht, b5, b7]
  refine call (run_pc p who l h args) (by simp [Lcl.av, ints]) ?_
  generalize runR p who l h args = R at *
  simp [ht, Res.av]
  refine psends_v 170013 st (by decide) p hf h (.inl (by simpa [PlanF] using hP)) (fun S1 hP1 hF1 ht1 _ => ?_)
  have b71 := hF1.b 196007 (by decide)
  have b131 := hF1.b 196013 (by decide)
  simp [b7] at b71
  simp at b131
  simp [ht1, ht]
  refine preaches_v 170013 st (by decide) p hf h (.inr hP1) (fun S2 hP2 hF2 ht2 he => ?_)
  obtain ⟨e1, e2⟩ := he hP1
  simp [ht2, ht1, ht]
  have b72 := (congrFun e1 196007).trans b71
  have b132 := (congrFun e1 196013).trans b131
  refine rruns_in0 st p l h R (atI (sndV p) h) (atI (reaV p) h) (by omega) (by omega) hrl.1 ?_ _ ⟨by simp [ht2, ht1, ht], ⟨_, by simp [ht2, ht1, ht]; rfl, by simp [b72, Lcl.av]⟩, by simp [ht2, ht1, ht], ⟨_, by simp [ht2, ht1, ht]; rfl, by simp [b132, Res.av]⟩, by simp [ht2, ht1, ht], by simp [ht2, ht1, ht], by simpa [PlanM] using hP2⟩ (by simp)
  rintro S3 ⟨t3, ⟨s7, t7, c7⟩, t11, ⟨s13, t13, c13⟩, t14, t15, pl⟩
  simp
  refine rruns_in1 st p l h R (atI (sndV p) h) (atI (reaV p) h) (by omega) (by omega) (snd_up p h) (fun x hx => snd_rea hf hx) ?_ _ ⟨by simp [t3], ⟨s7, by simp [t7], by simp [c7]⟩, by simp [t11], ⟨s13, by simp [t13], by simp [c13]⟩, by simp [t14], by simp [t15], pl⟩ (by simp)
  rintro S4 ⟨t3, ⟨s7, t7, c7⟩, t11, ⟨s13, t13, c13⟩, t14, t15, pl⟩
  simp [t11, t3]
  refine parms_v 170013 st (by decide) p hf h (.inr pl) (fun S5 hP5 hF5 ht5 he5 => ?_)
  obtain ⟨e5, _⟩ := he5 pl
  have c75 := (congrFun e5 196007).trans c7
  have c135 := (congrFun e5 196013).trans c13
  cases hA : atB (armsV p) h with
  | true =>
    simp [ht5]
    refine awake20_v (fun S ht hc => ?_)
    simp [ht]
  | false =>
    by_cases hla : l.armed = true
    · simp [ht5, t7, c75, Lcl.av, hla]
      refine awake20_v (fun S ht hc => ?_)
      simp [ht]
    · have hra : R.l.armed = false := by
        cases q : R.l.armed with
        | false => rfl
        | true =>
          rcases hrl.2 q with r | r
          · exact absurd r hla
          · rw [hA] at r; cases r
      have hla' : l.armed = false := by simpa using hla
      simp [ht5, t7, c75, Lcl.av, hla', t13, c135, Res.av, hra]
      refine awake20_v (fun S ht hc => ?_)
      simp [ht]

end Go.Gv
