/- Texts of this proof, one behind the other. What is proved, and on which conditions, stands ahead of each. -/
import Derived.Test.YthhgjncefjnogaaProg
import Derived.Test.YthhgjncefjnogaaMgVmRuns13

/- Rounds of the reference's run (1). -/
set_option linter.unusedVariables false
set_option linter.unusedSimpArgs false
namespace Go.Gv
open Go.Proofs

theorem rr1 {F : Fx} {p : Prg} {l : Lcl} {code : List Ins} {m : Mach} {s : Int} {i : Ins} {κ : Ex → St → Prop} {S : St} (hF : F.p = p) (h : RIs F p l code m s S) (hp : 0 ≤ m.pc) (hlt : m.pc.toNat < code.length) (hi : code[m.pc.toNat] = i) (hs : 0 ≤ s ∧ s < p.fuel ∧ s ≤ 1000) (ok : DoOk F i m) (e : i.op = 1) (hk : RPost F p l code m s i κ) : V Try.prog rrun_l0 κ S := by
  obtain ⟨a1, a4, a5, c5, a10, c10, a11, ⟨sn, r, a12, c12, sr, rfl, cr⟩, ⟨sf, s2, a13, c13⟩, a14, a15, a16, a17⟩ := h
  obtain ⟨⟨_, _⟩, tk, rg, ag, sd, ⟨w1, w2⟩, rl, nl, pc, sl⟩ := ok
  obtain ⟨k1, k2⟩ := hk
  rw [atV_nn _ hp] at a17
  have ws : IntKind.i64.wrap (m.pc + 1) = m.pc + 1 := wrap_in _ (by omega) (by omega)
  have wt : IntKind.i64.wrap (s + 1) = s + 1 := wrap_in _ (by omega) (by omega)
  have hl2 : m.pc < code.length := by omega
  have nf : ¬ (p.fuel ≤ s) := by omega
  have z8 : (m.st.length + 1) * 8 ≤ 140737488355328 := by omega
  simp [takesV, e, popsV] at tk
  have hd : doV F i m = ({ m with pc := m.pc + 1, st := m.st ++ [i.a] }, 0) := by simp [doV, e]
  rw [hd] at k1 k2
  rcases a15 with ⟨q1, q2⟩ | ⟨st, es, q1, q2, q3, q4⟩
  · simp [rrun_l0, a1, a4, a5, c5, a10, c10, a11, a12, c12, a13, c13, a16, a17, cr, hp, hlt, hl2, hi, nf, ws, wt, e, q1]
    exact k1 rfl _ ⟨by simp [a1], by simp [a4], by simp [a5], by simp [c5], by simp [a10], by simp [c10], by simp [a11], ⟨sn, _, by simp [a12], by simp [c12], sr, rfl, by simp [cr]⟩, ⟨sf, s2, by simp [a13], by simp [c13]⟩, by simpa [AccIs] using a14, by simp [StkR, q2], by simp [a16], by simp [atV_nn _ (show 0 ≤ m.pc + 1 by omega)]⟩
  · simp [rrun_l0, a1, a4, a5, c5, a10, c10, a11, a12, c12, a13, c13, a16, a17, cr, hp, hlt, hl2, hi, nf, ws, wt, e, q1, q2, q3, q4, z8]
    exact k1 rfl _ ⟨by simp [a1], by simp [a4], by simp [a5], by simp [c5], by simp [a10], by simp [c10], by simp [a11], ⟨sn, _, by simp [a12], by simp [c12], sr, rfl, by simp [cr]⟩, ⟨sf, s2, by simp [a13], by simp [c13]⟩, by simpa [AccIs] using a14, by simp [StkR, List.take_of_length_le], by simp [a16], by simp [atV_nn _ (show 0 ≤ m.pc + 1 by omega)]⟩
theorem rr2 {F : Fx} {p : Prg} {l : Lcl} {code : List Ins} {m : Mach} {s : Int} {i : Ins} {κ : Ex → St → Prop} {S : St} (hF : F.p = p) (h : RIs F p l code m s S) (hp : 0 ≤ m.pc) (hlt : m.pc.toNat < code.length) (hi : code[m.pc.toNat] = i) (hs : 0 ≤ s ∧ s < p.fuel ∧ s ≤ 1000) (ok : DoOk F i m) (e : i.op = 2) (hk : RPost F p l code m s i κ) : V Try.prog rrun_l0 κ S := by
  obtain ⟨a1, a4, a5, c5, a10, c10, a11, ⟨sn, r, a12, c12, sr, rfl, cr⟩, ⟨sf, s2, a13, c13⟩, a14, a15, a16, a17⟩ := h
  obtain ⟨⟨_, _⟩, tk, rg, ag, sd, ⟨w1, w2⟩, rl, nl, pc, sl⟩ := ok
  obtain ⟨k1, k2⟩ := hk
  rw [atV_nn _ hp] at a17
  have ws : IntKind.i64.wrap (m.pc + 1) = m.pc + 1 := wrap_in _ (by omega) (by omega)
  have wt : IntKind.i64.wrap (s + 1) = s + 1 := wrap_in _ (by omega) (by omega)
  have hl2 : m.pc < code.length := by omega
  have nf : ¬ (p.fuel ≤ s) := by omega
  have z8 : (m.st.length + 1) * 8 ≤ 140737488355328 := by omega
  simp [takesV, e, popsV] at tk
  have hd : doV F i m = ({ m with pc := m.pc + 1, st := m.st.dropLast }, 0) := by simp [doV, e]
  rw [hd] at k1 k2
  have wl : IntKind.i64.wrap ((m.st.length : Int) - 1) = ((m.st.length - 1 : Nat) : Int) := by rw [wrap_in _ (by omega) (by omega)]; omega
  obtain ⟨st, es, q1, q2, q3, q4, q5, q6⟩ := a15.top1 (by omega)
  simp [rrun_l0, a1, a4, a5, c5, a10, c10, a11, a12, c12, a13, c13, a16, a17, cr, hp, hlt, hl2, hi, nf, ws, wt, e, q1, q2, wl, show m.st.length - 1 < m.st.length by omega, show m.st.length - 1 ≤ m.st.length by omega]
  exact k1 rfl _ ⟨by simp [a1], by simp [a4], by simp [a5], by simp [c5], by simp [a10], by simp [c10], by simp [a11], ⟨sn, _, by simp [a12], by simp [c12], sr, rfl, by simp [cr]⟩, ⟨sf, s2, by simp [a13], by simp [c13]⟩, by simpa [AccIs] using a14, by refine .inr ⟨st, es, ?_, ?_, ?_, ?_⟩ <;> simp [q2, q5] <;> omega, by simp [a16], by simp [atV_nn _ (show 0 ≤ m.pc + 1 by omega)]⟩
theorem rr3 {F : Fx} {p : Prg} {l : Lcl} {code : List Ins} {m : Mach} {s : Int} {i : Ins} {κ : Ex → St → Prop} {S : St} (hF : F.p = p) (h : RIs F p l code m s S) (hp : 0 ≤ m.pc) (hlt : m.pc.toNat < code.length) (hi : code[m.pc.toNat] = i) (hs : 0 ≤ s ∧ s < p.fuel ∧ s ≤ 1000) (ok : DoOk F i m) (e : i.op = 3) (hk : RPost F p l code m s i κ) : V Try.prog rrun_l0 κ S := by
  obtain ⟨a1, a4, a5, c5, a10, c10, a11, ⟨sn, r, a12, c12, sr, rfl, cr⟩, ⟨sf, s2, a13, c13⟩, a14, a15, a16, a17⟩ := h
  obtain ⟨⟨_, _⟩, tk, rg, ag, sd, ⟨w1, w2⟩, rl, nl, pc, sl⟩ := ok
  obtain ⟨k1, k2⟩ := hk
  rw [atV_nn _ hp] at a17
  have ws : IntKind.i64.wrap (m.pc + 1) = m.pc + 1 := wrap_in _ (by omega) (by omega)
  have wt : IntKind.i64.wrap (s + 1) = s + 1 := wrap_in _ (by omega) (by omega)
  have hl2 : m.pc < code.length := by omega
  have nf : ¬ (p.fuel ≤ s) := by omega
  have z8 : (m.st.length + 1) * 8 ≤ 140737488355328 := by omega
  simp [takesV, e, popsV] at tk
  have hd : doV F i m = ({ m with pc := m.pc + 1, st := m.st ++ [top m.st] }, 0) := by simp [doV, e]
  rw [hd] at k1 k2
  have wl : IntKind.i64.wrap ((m.st.length : Int) - 1) = ((m.st.length - 1 : Nat) : Int) := by rw [wrap_in _ (by omega) (by omega)]; omega
  obtain ⟨st, es, q1, q2, q3, q4, q5, q6⟩ := a15.top1 (by omega)
  simp [rrun_l0, a1, a4, a5, c5, a10, c10, a11, a12, c12, a13, c13, a16, a17, cr, hp, hlt, hl2, hi, nf, ws, wt, e, q1, q2, q3, q4, q6, wl, z8, show m.st.length - 1 < m.st.length by omega, show m.st.length - 1 ≤ m.st.length by omega]
  exact k1 rfl _ ⟨by simp [a1], by simp [a4], by simp [a5], by simp [c5], by simp [a10], by simp [c10], by simp [a11], ⟨sn, _, by simp [a12], by simp [c12], sr, rfl, by simp [cr]⟩, ⟨sf, s2, by simp [a13], by simp [c13]⟩, by simpa [AccIs] using a14, by simp [StkR, List.take_of_length_le], by simp [a16], by simp [atV_nn _ (show 0 ≤ m.pc + 1 by omega)]⟩
theorem rr8 {F : Fx} {p : Prg} {l : Lcl} {code : List Ins} {m : Mach} {s : Int} {i : Ins} {κ : Ex → St → Prop} {S : St} (hF : F.p = p) (h : RIs F p l code m s S) (hp : 0 ≤ m.pc) (hlt : m.pc.toNat < code.length) (hi : code[m.pc.toNat] = i) (hs : 0 ≤ s ∧ s < p.fuel ∧ s ≤ 1000) (ok : DoOk F i m) (e : i.op = 8) (hk : RPost F p l code m s i κ) : V Try.prog rrun_l0 κ S := by
  obtain ⟨a1, a4, a5, c5, a10, c10, a11, ⟨sn, r, a12, c12, sr, rfl, cr⟩, ⟨sf, s2, a13, c13⟩, a14, a15, a16, a17⟩ := h
  obtain ⟨⟨_, _⟩, tk, rg, ag, sd, ⟨w1, w2⟩, rl, nl, pc, sl⟩ := ok
  obtain ⟨k1, k2⟩ := hk
  rw [atV_nn _ hp] at a17
  have ws : IntKind.i64.wrap (m.pc + 1) = m.pc + 1 := wrap_in _ (by omega) (by omega)
  have wt : IntKind.i64.wrap (s + 1) = s + 1 := wrap_in _ (by omega) (by omega)
  have hl2 : m.pc < code.length := by omega
  have nf : ¬ (p.fuel ≤ s) := by omega
  have z8 : (m.st.length + 1) * 8 ≤ 140737488355328 := by omega
  simp [takesV, e, popsV] at tk
  have hd : doV F i m = ({ m with pc := m.pc + 1, st := m.st ++ [F.who] }, 0) := by simp [doV, e]
  rw [hd] at k1 k2
  rcases a15 with ⟨q1, q2⟩ | ⟨st, es, q1, q2, q3, q4⟩
  · simp [rrun_l0, a1, a4, a5, c5, a10, c10, a11, a12, c12, a13, c13, a16, a17, cr, hp, hlt, hl2, hi, nf, ws, wt, e, q1]
    exact k1 rfl _ ⟨by simp [a1], by simp [a4], by simp [a5], by simp [c5], by simp [a10], by simp [c10], by simp [a11], ⟨sn, _, by simp [a12], by simp [c12], sr, rfl, by simp [cr]⟩, ⟨sf, s2, by simp [a13], by simp [c13]⟩, by simpa [AccIs] using a14, by simp [StkR, q2], by simp [a16], by simp [atV_nn _ (show 0 ≤ m.pc + 1 by omega)]⟩
  · simp [rrun_l0, a1, a4, a5, c5, a10, c10, a11, a12, c12, a13, c13, a16, a17, cr, hp, hlt, hl2, hi, nf, ws, wt, e, q1, q2, q3, q4, z8]
    exact k1 rfl _ ⟨by simp [a1], by simp [a4], by simp [a5], by simp [c5], by simp [a10], by simp [c10], by simp [a11], ⟨sn, _, by simp [a12], by simp [c12], sr, rfl, by simp [cr]⟩, ⟨sf, s2, by simp [a13], by simp [c13]⟩, by simpa [AccIs] using a14, by simp [StkR, List.take_of_length_le], by simp [a16], by simp [atV_nn _ (show 0 ≤ m.pc + 1 by omega)]⟩
theorem rr20 {F : Fx} {p : Prg} {l : Lcl} {code : List Ins} {m : Mach} {s : Int} {i : Ins} {κ : Ex → St → Prop} {S : St} (hF : F.p = p) (h : RIs F p l code m s S) (hp : 0 ≤ m.pc) (hlt : m.pc.toNat < code.length) (hi : code[m.pc.toNat] = i) (hs : 0 ≤ s ∧ s < p.fuel ∧ s ≤ 1000) (ok : DoOk F i m) (e : i.op = 20) (hj : 0 ≤ i.a) (hk : RPost F p l code m s i κ) : V Try.prog rrun_l0 κ S := by
  obtain ⟨a1, a4, a5, c5, a10, c10, a11, ⟨sn, r, a12, c12, sr, rfl, cr⟩, ⟨sf, s2, a13, c13⟩, a14, a15, a16, a17⟩ := h
  obtain ⟨⟨_, _⟩, tk, rg, ag, sd, ⟨w1, w2⟩, rl, nl, pc, sl⟩ := ok
  obtain ⟨k1, k2⟩ := hk
  rw [atV_nn _ hp] at a17
  have ws : IntKind.i64.wrap (m.pc + 1) = m.pc + 1 := wrap_in _ (by omega) (by omega)
  have wt : IntKind.i64.wrap (s + 1) = s + 1 := wrap_in _ (by omega) (by omega)
  have hl2 : m.pc < code.length := by omega
  have nf : ¬ (p.fuel ≤ s) := by omega
  have z8 : (m.st.length + 1) * 8 ≤ 140737488355328 := by omega
  simp [takesV, e, popsV] at tk
  have hd : doV F i m = ({ m with pc := i.a }, 0) := by simp [doV, e]
  rw [hd] at k1 k2
  simp [rrun_l0, a1, a4, a5, c5, a10, c10, a11, a12, c12, a13, c13, a16, a17, cr, hp, hlt, hl2, hi, nf, ws, wt, e, a15.len]
  exact k1 rfl _ ⟨by simp [a1], by simp [a4], by simp [a5], by simp [c5], by simp [a10], by simp [c10], by simp [a11], ⟨sn, _, by simp [a12], by simp [c12], sr, rfl, by simp [cr]⟩, ⟨sf, s2, by simp [a13], by simp [c13]⟩, by simpa [AccIs] using a14, by simpa [StkR] using a15, by simp [a16], by simp [atV_nn _ hj]⟩
theorem rr24 {F : Fx} {p : Prg} {l : Lcl} {code : List Ins} {m : Mach} {s : Int} {i : Ins} {κ : Ex → St → Prop} {S : St} (hF : F.p = p) (h : RIs F p l code m s S) (hp : 0 ≤ m.pc) (hlt : m.pc.toNat < code.length) (hi : code[m.pc.toNat] = i) (hs : 0 ≤ s ∧ s < p.fuel ∧ s ≤ 1000) (ok : DoOk F i m) (e : i.op = 24) (hk : RPost F p l code m s i κ) : V Try.prog rrun_l0 κ S := by
  obtain ⟨a1, a4, a5, c5, a10, c10, a11, ⟨sn, r, a12, c12, sr, rfl, cr⟩, ⟨sf, s2, a13, c13⟩, a14, a15, a16, a17⟩ := h
  obtain ⟨⟨_, _⟩, tk, rg, ag, sd, ⟨w1, w2⟩, rl, nl, pc, sl⟩ := ok
  obtain ⟨k1, k2⟩ := hk
  rw [atV_nn _ hp] at a17
  have ws : IntKind.i64.wrap (m.pc + 1) = m.pc + 1 := wrap_in _ (by omega) (by omega)
  have wt : IntKind.i64.wrap (s + 1) = s + 1 := wrap_in _ (by omega) (by omega)
  have hl2 : m.pc < code.length := by omega
  have nf : ¬ (p.fuel ≤ s) := by omega
  have z8 : (m.st.length + 1) * 8 ≤ 140737488355328 := by omega
  simp [takesV, e, popsV] at tk
  have hd : doV F i m = ({ m with pc := m.pc + 1, armed := false }, 0) := by simp [doV, e]
  rw [hd] at k1 k2
  simp [rrun_l0, a1, a4, a5, c5, a10, c10, a11, a12, c12, a13, c13, a16, a17, cr, hp, hlt, hl2, hi, nf, ws, wt, e, a15.len]
  exact k1 rfl _ ⟨by simp [a1], by simp [a4], by simp [a5], by simp [c5], by simp [a10], by simp [c10], by simp [a11], ⟨sn, _, by simp [a12], by simp [c12], sr, rfl, by simp [cr]⟩, ⟨sf, s2, by simp [a13], by simp [c13]⟩, by simpa [AccIs] using a14, by simpa [StkR] using a15, by simp [a16], by simp [atV_nn _ (show 0 ≤ m.pc + 1 by omega)]⟩
theorem rr25 {F : Fx} {p : Prg} {l : Lcl} {code : List Ins} {m : Mach} {s : Int} {i : Ins} {κ : Ex → St → Prop} {S : St} (hF : F.p = p) (h : RIs F p l code m s S) (hp : 0 ≤ m.pc) (hlt : m.pc.toNat < code.length) (hi : code[m.pc.toNat] = i) (hs : 0 ≤ s ∧ s < p.fuel ∧ s ≤ 1000) (ok : DoOk F i m) (e : i.op = 25) (hk : RPost F p l code m s i κ) : V Try.prog rrun_l0 κ S := by
  obtain ⟨a1, a4, a5, c5, a10, c10, a11, ⟨sn, r, a12, c12, sr, rfl, cr⟩, ⟨sf, s2, a13, c13⟩, a14, a15, a16, a17⟩ := h
  obtain ⟨⟨_, _⟩, tk, rg, ag, sd, ⟨w1, w2⟩, rl, nl, pc, sl⟩ := ok
  obtain ⟨k1, k2⟩ := hk
  rw [atV_nn _ hp] at a17
  have ws : IntKind.i64.wrap (m.pc + 1) = m.pc + 1 := wrap_in _ (by omega) (by omega)
  have wt : IntKind.i64.wrap (s + 1) = s + 1 := wrap_in _ (by omega) (by omega)
  have hl2 : m.pc < code.length := by omega
  have nf : ¬ (p.fuel ≤ s) := by omega
  have z8 : (m.st.length + 1) * 8 ≤ 140737488355328 := by omega
  simp [takesV, e, popsV] at tk
  have hd : doV F i m = ({ m with pc := -1 }, 0) := by simp [doV, e]
  rw [hd] at k1 k2
  simp [rrun_l0, a1, a4, a5, c5, a10, c10, a11, a12, c12, a13, c13, a16, a17, cr, hp, hlt, hl2, hi, nf, ws, wt, e, a15.len]
  exact k1 rfl _ ⟨by simp [a1], by simp [a4], by simp [a5], by simp [c5], by simp [a10], by simp [c10], by simp [a11], ⟨sn, _, by simp [a12], by simp [c12], sr, rfl, by simp [cr]⟩, ⟨sf, s2, by simp [a13], by simp [c13]⟩, by simpa [AccIs] using a14, by simpa [StkR] using a15, by simp [a16], by simp [atV]⟩
theorem rr4 {F : Fx} {p : Prg} {l : Lcl} {code : List Ins} {m : Mach} {s : Int} {i : Ins} {κ : Ex → St → Prop} {S : St} (hF : F.p = p) (h : RIs F p l code m s S) (hp : 0 ≤ m.pc) (hlt : m.pc.toNat < code.length) (hi : code[m.pc.toNat] = i) (hs : 0 ≤ s ∧ s < p.fuel ∧ s ≤ 1000) (ok : DoOk F i m) (e : i.op = 4) (hk : RPost F p l code m s i κ) : V Try.prog rrun_l0 κ S := by
  obtain ⟨a1, a4, a5, c5, a10, c10, a11, ⟨sn, r, a12, c12, sr, rfl, cr⟩, ⟨sf, s2, a13, c13⟩, a14, a15, a16, a17⟩ := h
  obtain ⟨⟨_, _⟩, tk, rg, ag, sd, ⟨w1, w2⟩, rl, nl, pc, sl⟩ := ok
  obtain ⟨k1, k2⟩ := hk
  rw [atV_nn _ hp] at a17
  have ws : IntKind.i64.wrap (m.pc + 1) = m.pc + 1 := wrap_in _ (by omega) (by omega)
  have wt : IntKind.i64.wrap (s + 1) = s + 1 := wrap_in _ (by omega) (by omega)
  have hl2 : m.pc < code.length := by omega
  have nf : ¬ (p.fuel ≤ s) := by omega
  have z8 : (m.st.length + 1) * 8 ≤ 140737488355328 := by omega
  simp [takesV, e, popsV] at tk
  have hd : doV F i m = ({ m with pc := m.pc + 1, st := m.st.dropLast.dropLast ++ [top m.st, top m.st.dropLast] }, 0) := by simp [doV, e]
  rw [hd] at k1 k2
  have wl : IntKind.i64.wrap ((m.st.length : Int) - 1) = ((m.st.length - 1 : Nat) : Int) := by rw [wrap_in _ (by omega) (by omega)]; omega
  have wl2 : IntKind.i64.wrap ((m.st.length : Int) - 2) = ((m.st.length - 2 : Nat) : Int) := by rw [wrap_in _ (by omega) (by omega)]; omega
  obtain ⟨st, es, q1, q2, q3, q4, q5, q6⟩ := a15.top2 (by omega)
  have hxl : m.st.dropLast.dropLast.length = m.st.length - 2 := by simp; omega
  generalize hxs : m.st.dropLast.dropLast = xs at *
  simp [rrun_l0, a1, a4, a5, c5, a10, c10, a11, a12, c12, a13, c13, a16, a17, cr, hp, hlt, hl2, hi, nf, ws, wt, e, q1, q2, q3, q4, q5, q6, wl, wl2, z8, show m.st.length - 1 < m.st.length by omega, show m.st.length - 1 ≤ m.st.length by omega, show m.st.length - 2 < m.st.length by omega, show m.st.length - 2 ≤ m.st.length by omega, show m.st.length - 2 ≤ es.length by omega, show (m.st.length - 2 + 1) * 8 ≤ 140737488355328 by omega, show (m.st.length - 1 + 1) * 8 ≤ 140737488355328 by omega, show (m.st.length - 2 + 2) * 8 ≤ 140737488355328 by omega, show m.st.length - 1 ≤ es.length by omega, show m.st.length ≤ es.length + 2 by omega, show m.st.length ≤ es.length + 1 by omega, show (xs.length + 2) * 8 ≤ 140737488355328 by omega, show (xs.length + 1) * 8 ≤ 140737488355328 by omega, show xs.length * 8 ≤ 140737488355328 by omega]
  exact k1 rfl _ ⟨by simp [a1], by simp [a4], by simp [a5], by simp [c5], by simp [a10], by simp [c10], by simp [a11], ⟨sn, _, by simp [a12], by simp [c12], sr, rfl, by simp [cr]⟩, ⟨sf, s2, by simp [a13], by simp [c13]⟩, by simpa [AccIs] using a14, by simp [StkR, List.take_of_length_le], by simp [a16], by simp [atV_nn _ (show 0 ≤ m.pc + 1 by omega)]⟩

end Go.Gv

/- Rounds of the reference's run (1). -/
set_option linter.unusedVariables false
set_option linter.unusedSimpArgs false
namespace Go.Gv
open Go.Proofs

theorem rr5 {F : Fx} {p : Prg} {l : Lcl} {code : List Ins} {m : Mach} {s : Int} {i : Ins} {κ : Ex → St → Prop} {S : St} (hF : F.p = p) (h : RIs F p l code m s S) (hp : 0 ≤ m.pc) (hlt : m.pc.toNat < code.length) (hi : code[m.pc.toNat] = i) (hs : 0 ≤ s ∧ s < p.fuel ∧ s ≤ 1000) (ok : DoOk F i m) (e : i.op = 5) (hk : RPost F p l code m s i κ) : V Try.prog rrun_l0 κ S := by
  obtain ⟨a1, a4, a5, c5, a10, c10, a11, ⟨sn, r, a12, c12, sr, rfl, cr⟩, ⟨sf, s2, a13, c13⟩, a14, a15, a16, a17⟩ := h
  obtain ⟨⟨_, _⟩, tk, rg, ag, sd, ⟨w1, w2⟩, rl, nl, pc, sl⟩ := ok
  obtain ⟨k1, k2⟩ := hk
  rw [atV_nn _ hp] at a17
  have ws : IntKind.i64.wrap (m.pc + 1) = m.pc + 1 := wrap_in _ (by omega) (by omega)
  have wt : IntKind.i64.wrap (s + 1) = s + 1 := wrap_in _ (by omega) (by omega)
  have hl2 : m.pc < code.length := by omega
  have nf : ¬ (p.fuel ≤ s) := by omega
  have z8 : (m.st.length + 1) * 8 ≤ 140737488355328 := by omega
  simp [takesV, e, popsV] at tk
  have hd : doV F i m = ({ m with pc := m.pc + 1, st := m.st ++ [loadV m i.a] }, 0) := by simp [doV, e]
  rw [hd] at k1 k2
  have ha := rg (.inl e)
  by_cases h1 : i.a < m.regs.length
  · have hat : i.a.toNat < m.regs.length := by omega
    have hld : loadV m i.a = m.regs[i.a.toNat] := by unfold loadV; rw [if_pos h1, List.getElem?_eq_getElem hat]; rfl
    rw [hld] at k1
    rcases a15 with ⟨q1, q2⟩ | ⟨st, es, q1, q2, q3, q4⟩
    · simp [rrun_l0, a1, a4, a5, c5, a10, c10, a11, a12, c12, a13, c13, a16, a17, cr, hp, hlt, hl2, hi, nf, ws, wt, e, q1, ha, h1, hat]
      exact k1 rfl _ ⟨by simp [a1], by simp [a4], by simp [a5], by simp [c5], by simp [a10], by simp [c10], by simp [a11], ⟨sn, _, by simp [a12], by simp [c12], sr, rfl, by simp [cr]⟩, ⟨sf, s2, by simp [a13], by simp [c13]⟩, by simpa [AccIs] using a14, by simp [StkR, q2], by simp [a16], by simp [atV_nn _ (show 0 ≤ m.pc + 1 by omega)]⟩
    · simp [rrun_l0, a1, a4, a5, c5, a10, c10, a11, a12, c12, a13, c13, a16, a17, cr, hp, hlt, hl2, hi, nf, ws, wt, e, q1, q2, q3, q4, z8, ha, h1, hat]
      exact k1 rfl _ ⟨by simp [a1], by simp [a4], by simp [a5], by simp [c5], by simp [a10], by simp [c10], by simp [a11], ⟨sn, _, by simp [a12], by simp [c12], sr, rfl, by simp [cr]⟩, ⟨sf, s2, by simp [a13], by simp [c13]⟩, by simpa [AccIs] using a14, by simp [StkR, List.take_of_length_le], by simp [a16], by simp [atV_nn _ (show 0 ≤ m.pc + 1 by omega)]⟩
  · have hld : loadV m i.a = 0 := by unfold loadV; rw [if_neg h1]
    rw [hld] at k1
    rcases a15 with ⟨q1, q2⟩ | ⟨st, es, q1, q2, q3, q4⟩
    · simp [rrun_l0, a1, a4, a5, c5, a10, c10, a11, a12, c12, a13, c13, a16, a17, cr, hp, hlt, hl2, hi, nf, ws, wt, e, q1, ha, h1]
      exact k1 rfl _ ⟨by simp [a1], by simp [a4], by simp [a5], by simp [c5], by simp [a10], by simp [c10], by simp [a11], ⟨sn, _, by simp [a12], by simp [c12], sr, rfl, by simp [cr]⟩, ⟨sf, s2, by simp [a13], by simp [c13]⟩, by simpa [AccIs] using a14, by simp [StkR, q2], by simp [a16], by simp [atV_nn _ (show 0 ≤ m.pc + 1 by omega)]⟩
    · simp [rrun_l0, a1, a4, a5, c5, a10, c10, a11, a12, c12, a13, c13, a16, a17, cr, hp, hlt, hl2, hi, nf, ws, wt, e, q1, q2, q3, q4, z8, ha, h1]
      exact k1 rfl _ ⟨by simp [a1], by simp [a4], by simp [a5], by simp [c5], by simp [a10], by simp [c10], by simp [a11], ⟨sn, _, by simp [a12], by simp [c12], sr, rfl, by simp [cr]⟩, ⟨sf, s2, by simp [a13], by simp [c13]⟩, by simpa [AccIs] using a14, by simp [StkR, List.take_of_length_le], by simp [a16], by simp [atV_nn _ (show 0 ≤ m.pc + 1 by omega)]⟩
theorem rr6 {F : Fx} {p : Prg} {l : Lcl} {code : List Ins} {m : Mach} {s : Int} {i : Ins} {κ : Ex → St → Prop} {S : St} (hF : F.p = p) (h : RIs F p l code m s S) (hp : 0 ≤ m.pc) (hlt : m.pc.toNat < code.length) (hi : code[m.pc.toNat] = i) (hs : 0 ≤ s ∧ s < p.fuel ∧ s ≤ 1000) (ok : DoOk F i m) (e : i.op = 6) (hk : RPost F p l code m s i κ) : V Try.prog rrun_l0 κ S := by
  obtain ⟨a1, a4, a5, c5, a10, c10, a11, ⟨sn, r, a12, c12, sr, rfl, cr⟩, ⟨sf, s2, a13, c13⟩, a14, a15, a16, a17⟩ := h
  obtain ⟨⟨_, _⟩, tk, rg, ag, sd, ⟨w1, w2⟩, rl, nl, pc, sl⟩ := ok
  obtain ⟨k1, k2⟩ := hk
  rw [atV_nn _ hp] at a17
  have ws : IntKind.i64.wrap (m.pc + 1) = m.pc + 1 := wrap_in _ (by omega) (by omega)
  have wt : IntKind.i64.wrap (s + 1) = s + 1 := wrap_in _ (by omega) (by omega)
  have hl2 : m.pc < code.length := by omega
  have nf : ¬ (p.fuel ≤ s) := by omega
  have z8 : (m.st.length + 1) * 8 ≤ 140737488355328 := by omega
  simp [takesV, e, popsV] at tk
  have hd : doV F i m = ({ m with pc := m.pc + 1, st := m.st.dropLast, regs := if i.a < m.regs.length then m.regs.set i.a.toNat (top m.st) else m.regs }, 0) := by simp [doV, e]
  rw [hd] at k1 k2
  have wl : IntKind.i64.wrap ((m.st.length : Int) - 1) = ((m.st.length - 1 : Nat) : Int) := by rw [wrap_in _ (by omega) (by omega)]; omega
  obtain ⟨st, es, q1, q2, q3, q4, q5, q6⟩ := a15.top1 (by omega)
  have ha := rg (.inr e)
  by_cases h1 : i.a < m.regs.length
  · have hat : i.a.toNat < m.regs.length := by omega
    rw [if_pos h1] at k1
    simp [rrun_l0, a1, a4, a5, c5, a10, c10, a11, a12, c12, a13, c13, a16, a17, cr, hp, hlt, hl2, hi, nf, ws, wt, e, q1, q2, q3, q4, q5, wl, ha, h1, hat, show m.st.length - 1 < m.st.length by omega, show m.st.length - 1 ≤ m.st.length by omega]
    exact k1 rfl _ ⟨by simp [a1], by simp [a4], by simp [a5], by simp [c5], by simp [a10], by simp [c10], by simp [a11], ⟨sn, .sl 1000046012 sr 1 0 m.regs.length, by simp [a12], by simp [c12], sr, by simp, by simp [cr, List.map_set]⟩, ⟨sf, s2, by simp [a13], by simp [c13]⟩, by simpa [AccIs] using a14, by refine .inr ⟨st, es, ?_, ?_, ?_, ?_⟩ <;> simp [q2, q5] <;> omega, by simp [a16], by simp [atV_nn _ (show 0 ≤ m.pc + 1 by omega)]⟩
  · rw [if_neg h1] at k1
    simp [rrun_l0, a1, a4, a5, c5, a10, c10, a11, a12, c12, a13, c13, a16, a17, cr, hp, hlt, hl2, hi, nf, ws, wt, e, q1, q2, wl, ha, h1, show m.st.length - 1 < m.st.length by omega, show m.st.length - 1 ≤ m.st.length by omega]
    exact k1 rfl _ ⟨by simp [a1], by simp [a4], by simp [a5], by simp [c5], by simp [a10], by simp [c10], by simp [a11], ⟨sn, _, by simp [a12], by simp [c12], sr, rfl, by simp [cr]⟩, ⟨sf, s2, by simp [a13], by simp [c13]⟩, by simpa [AccIs] using a14, by refine .inr ⟨st, es, ?_, ?_, ?_, ?_⟩ <;> simp [q2, q5] <;> omega, by simp [a16], by simp [atV_nn _ (show 0 ≤ m.pc + 1 by omega)]⟩
theorem rr7 {F : Fx} {p : Prg} {l : Lcl} {code : List Ins} {m : Mach} {s : Int} {i : Ins} {κ : Ex → St → Prop} {S : St} (hF : F.p = p) (h : RIs F p l code m s S) (hp : 0 ≤ m.pc) (hlt : m.pc.toNat < code.length) (hi : code[m.pc.toNat] = i) (hs : 0 ≤ s ∧ s < p.fuel ∧ s ≤ 1000) (ok : DoOk F i m) (e : i.op = 7) (hk : RPost F p l code m s i κ) : V Try.prog rrun_l0 κ S := by
  obtain ⟨a1, a4, a5, c5, a10, c10, a11, ⟨sn, r, a12, c12, sr, rfl, cr⟩, ⟨sf, s2, a13, c13⟩, a14, a15, a16, a17⟩ := h
  obtain ⟨⟨_, _⟩, tk, rg, ag, sd, ⟨w1, w2⟩, rl, nl, pc, sl⟩ := ok
  obtain ⟨k1, k2⟩ := hk
  rw [atV_nn _ hp] at a17
  have ws : IntKind.i64.wrap (m.pc + 1) = m.pc + 1 := wrap_in _ (by omega) (by omega)
  have wt : IntKind.i64.wrap (s + 1) = s + 1 := wrap_in _ (by omega) (by omega)
  have hl2 : m.pc < code.length := by omega
  have nf : ¬ (p.fuel ≤ s) := by omega
  have z8 : (m.st.length + 1) * 8 ≤ 140737488355328 := by omega
  simp [takesV, e, popsV] at tk
  have hd : doV F i m = ({ m with pc := m.pc + 1, st := m.st ++ [F.args[i.a.toNat]'(ag e).2] }, 0) := by simp [doV, e, List.getElem?_eq_getElem (ag e).2]
  rw [hd] at k1 k2
  have hg := ag e
  rcases a15 with ⟨q1, q2⟩ | ⟨st, es, q1, q2, q3, q4⟩
  · simp [rrun_l0, a1, a4, a5, c5, a10, c10, a11, a12, c12, a13, c13, a16, a17, cr, hp, hlt, hl2, hi, nf, ws, wt, e, q1, ints, hg.1, hg.2]
    exact k1 rfl _ ⟨by simp [a1], by simp [a4], by simp [a5], by simp [c5], by simp [a10], by simp [c10], by simp [a11], ⟨sn, _, by simp [a12], by simp [c12], sr, rfl, by simp [cr]⟩, ⟨sf, s2, by simp [a13], by simp [c13]⟩, by simpa [AccIs] using a14, by simp [StkR, q2], by simp [a16], by simp [atV_nn _ (show 0 ≤ m.pc + 1 by omega)]⟩
  · simp [rrun_l0, a1, a4, a5, c5, a10, c10, a11, a12, c12, a13, c13, a16, a17, cr, hp, hlt, hl2, hi, nf, ws, wt, e, q1, q2, q3, q4, z8, ints, hg.1, hg.2]
    exact k1 rfl _ ⟨by simp [a1], by simp [a4], by simp [a5], by simp [c5], by simp [a10], by simp [c10], by simp [a11], ⟨sn, _, by simp [a12], by simp [c12], sr, rfl, by simp [cr]⟩, ⟨sf, s2, by simp [a13], by simp [c13]⟩, by simpa [AccIs] using a14, by simp [StkR, List.take_of_length_le], by simp [a16], by simp [atV_nn _ (show 0 ≤ m.pc + 1 by omega)]⟩
theorem rr14 {F : Fx} {p : Prg} {l : Lcl} {code : List Ins} {m : Mach} {s : Int} {i : Ins} {κ : Ex → St → Prop} {S : St} (hF : F.p = p) (h : RIs F p l code m s S) (hp : 0 ≤ m.pc) (hlt : m.pc.toNat < code.length) (hi : code[m.pc.toNat] = i) (hs : 0 ≤ s ∧ s < p.fuel ∧ s ≤ 1000) (ok : DoOk F i m) (e : i.op = 14) (hk : RPost F p l code m s i κ) : V Try.prog rrun_l0 κ S := by
  obtain ⟨a1, a4, a5, c5, a10, c10, a11, ⟨sn, r, a12, c12, sr, rfl, cr⟩, ⟨sf, s2, a13, c13⟩, a14, a15, a16, a17⟩ := h
  obtain ⟨⟨_, _⟩, tk, rg, ag, sd, ⟨w1, w2⟩, rl, nl, pc, sl⟩ := ok
  obtain ⟨k1, k2⟩ := hk
  rw [atV_nn _ hp] at a17
  have ws : IntKind.i64.wrap (m.pc + 1) = m.pc + 1 := wrap_in _ (by omega) (by omega)
  have wt : IntKind.i64.wrap (s + 1) = s + 1 := wrap_in _ (by omega) (by omega)
  have hl2 : m.pc < code.length := by omega
  have nf : ¬ (p.fuel ≤ s) := by omega
  have z8 : (m.st.length + 1) * 8 ≤ 140737488355328 := by omega
  simp [takesV, e, popsV] at tk
  have hd : doV F i m = ({ m with pc := m.pc + 1, st := m.st.dropLast ++ [(oneV 14 (top m.st)).1] }, 0) := by simp [doV, e, oneV]
  rw [hd] at k1 k2
  have wl : IntKind.i64.wrap ((m.st.length : Int) - 1) = ((m.st.length - 1 : Nat) : Int) := by rw [wrap_in _ (by omega) (by omega)]; omega
  obtain ⟨st, es, q1, q2, q3, q4, q5, q6⟩ := a15.top1 (by omega)
  have hxl : m.st.dropLast.length = m.st.length - 1 := by simp
  generalize hxs : m.st.dropLast = xs at *
  simp [rrun_l0, a1, a4, a5, c5, a10, c10, a11, a12, c12, a13, c13, a16, a17, cr, hp, hlt, hl2, hi, nf, ws, wt, e, q1, q2, q3, q4, q5, wl, z8, show m.st.length - 1 < m.st.length by omega, show m.st.length - 1 ≤ m.st.length by omega, show m.st.length ≤ es.length + 1 by omega, show (xs.length + 1) * 8 ≤ 140737488355328 by omega, show xs.length * 8 ≤ 140737488355328 by omega, show m.st.length - 1 ≤ es.length by omega]
  refine calld (rone_pc 14 (top m.st)) (by simp) ?_
  simp [rrun_l0, a1, a4, a5, c5, a10, c10, a11, a12, c12, a13, c13, a16, a17, cr, hp, hlt, hl2, hi, nf, ws, wt, e, q1, q2, q3, q4, q5, wl, z8, oneV, show m.st.length - 1 < m.st.length by omega, show m.st.length - 1 ≤ m.st.length by omega, show m.st.length ≤ es.length + 1 by omega, show (xs.length + 1) * 8 ≤ 140737488355328 by omega, show xs.length * 8 ≤ 140737488355328 by omega, show m.st.length - 1 ≤ es.length by omega]
  exact k1 rfl _ ⟨by simp [a1], by simp [a4], by simp [a5], by simp [c5], by simp [a10], by simp [c10], by simp [a11], ⟨sn, _, by simp [a12], by simp [c12], sr, rfl, by simp [cr]⟩, ⟨sf, s2, by simp [a13], by simp [c13]⟩, by simpa [AccIs] using a14, by simp [StkR, List.take_of_length_le, oneV], by simp [a16], by simp [atV_nn _ (show 0 ≤ m.pc + 1 by omega)]⟩
theorem rr19 {F : Fx} {p : Prg} {l : Lcl} {code : List Ins} {m : Mach} {s : Int} {i : Ins} {κ : Ex → St → Prop} {S : St} (hF : F.p = p) (h : RIs F p l code m s S) (hp : 0 ≤ m.pc) (hlt : m.pc.toNat < code.length) (hi : code[m.pc.toNat] = i) (hs : 0 ≤ s ∧ s < p.fuel ∧ s ≤ 1000) (ok : DoOk F i m) (e : i.op = 19) (hk : RPost F p l code m s i κ) : V Try.prog rrun_l0 κ S := by
  obtain ⟨a1, a4, a5, c5, a10, c10, a11, ⟨sn, r, a12, c12, sr, rfl, cr⟩, ⟨sf, s2, a13, c13⟩, a14, a15, a16, a17⟩ := h
  obtain ⟨⟨_, _⟩, tk, rg, ag, sd, ⟨w1, w2⟩, rl, nl, pc, sl⟩ := ok
  obtain ⟨k1, k2⟩ := hk
  rw [atV_nn _ hp] at a17
  have ws : IntKind.i64.wrap (m.pc + 1) = m.pc + 1 := wrap_in _ (by omega) (by omega)
  have wt : IntKind.i64.wrap (s + 1) = s + 1 := wrap_in _ (by omega) (by omega)
  have hl2 : m.pc < code.length := by omega
  have nf : ¬ (p.fuel ≤ s) := by omega
  have z8 : (m.st.length + 1) * 8 ≤ 140737488355328 := by omega
  simp [takesV, e, popsV] at tk
  have hd : doV F i m = ({ m with pc := m.pc + 1, st := m.st.dropLast ++ [(oneV 19 (top m.st)).1] }, 0) := by simp [doV, e, oneV]
  rw [hd] at k1 k2
  have wl : IntKind.i64.wrap ((m.st.length : Int) - 1) = ((m.st.length - 1 : Nat) : Int) := by rw [wrap_in _ (by omega) (by omega)]; omega
  obtain ⟨st, es, q1, q2, q3, q4, q5, q6⟩ := a15.top1 (by omega)
  have hxl : m.st.dropLast.length = m.st.length - 1 := by simp
  generalize hxs : m.st.dropLast = xs at *
  simp [rrun_l0, a1, a4, a5, c5, a10, c10, a11, a12, c12, a13, c13, a16, a17, cr, hp, hlt, hl2, hi, nf, ws, wt, e, q1, q2, q3, q4, q5, wl, z8, show m.st.length - 1 < m.st.length by omega, show m.st.length - 1 ≤ m.st.length by omega, show m.st.length ≤ es.length + 1 by omega, show (xs.length + 1) * 8 ≤ 140737488355328 by omega, show xs.length * 8 ≤ 140737488355328 by omega, show m.st.length - 1 ≤ es.length by omega]
  refine calld (rone_pc 19 (top m.st)) (by simp) ?_
  simp [rrun_l0, a1, a4, a5, c5, a10, c10, a11, a12, c12, a13, c13, a16, a17, cr, hp, hlt, hl2, hi, nf, ws, wt, e, q1, q2, q3, q4, q5, wl, z8, oneV, show m.st.length - 1 < m.st.length by omega, show m.st.length - 1 ≤ m.st.length by omega, show m.st.length ≤ es.length + 1 by omega, show (xs.length + 1) * 8 ≤ 140737488355328 by omega, show xs.length * 8 ≤ 140737488355328 by omega, show m.st.length - 1 ≤ es.length by omega]
  exact k1 rfl _ ⟨by simp [a1], by simp [a4], by simp [a5], by simp [c5], by simp [a10], by simp [c10], by simp [a11], ⟨sn, _, by simp [a12], by simp [c12], sr, rfl, by simp [cr]⟩, ⟨sf, s2, by simp [a13], by simp [c13]⟩, by simpa [AccIs] using a14, by simp [StkR, List.take_of_length_le, oneV], by simp [a16], by simp [atV_nn _ (show 0 ≤ m.pc + 1 by omega)]⟩

end Go.Gv

/- Rounds of the reference's run (1). -/
set_option linter.unusedVariables false
set_option linter.unusedSimpArgs false
namespace Go.Gv
open Go.Proofs

theorem rr21 {F : Fx} {p : Prg} {l : Lcl} {code : List Ins} {m : Mach} {s : Int} {i : Ins} {κ : Ex → St → Prop} {S : St} (hF : F.p = p) (h : RIs F p l code m s S) (hp : 0 ≤ m.pc) (hlt : m.pc.toNat < code.length) (hi : code[m.pc.toNat] = i) (hs : 0 ≤ s ∧ s < p.fuel ∧ s ≤ 1000) (ok : DoOk F i m) (e : i.op = 21) (hj : 0 ≤ i.a) (hk : RPost F p l code m s i κ) : V Try.prog rrun_l0 κ S := by
  obtain ⟨a1, a4, a5, c5, a10, c10, a11, ⟨sn, r, a12, c12, sr, rfl, cr⟩, ⟨sf, s2, a13, c13⟩, a14, a15, a16, a17⟩ := h
  obtain ⟨⟨_, _⟩, tk, rg, ag, sd, ⟨w1, w2⟩, rl, nl, pc, sl⟩ := ok
  obtain ⟨k1, k2⟩ := hk
  rw [atV_nn _ hp] at a17
  have ws : IntKind.i64.wrap (m.pc + 1) = m.pc + 1 := wrap_in _ (by omega) (by omega)
  have wt : IntKind.i64.wrap (s + 1) = s + 1 := wrap_in _ (by omega) (by omega)
  have hl2 : m.pc < code.length := by omega
  have nf : ¬ (p.fuel ≤ s) := by omega
  have z8 : (m.st.length + 1) * 8 ≤ 140737488355328 := by omega
  simp [takesV, e, popsV] at tk
  have hd : doV F i m = ({ m with pc := if top m.st = 0 then i.a else m.pc + 1, st := m.st.dropLast }, 0) := by simp [doV, e]
  rw [hd] at k1 k2
  have wl : IntKind.i64.wrap ((m.st.length : Int) - 1) = ((m.st.length - 1 : Nat) : Int) := by rw [wrap_in _ (by omega) (by omega)]; omega
  obtain ⟨st, es, q1, q2, q3, q4, q5, q6⟩ := a15.top1 (by omega)
  by_cases h1 : top m.st = 0
  · rw [if_pos h1] at k1
    simp [rrun_l0, a1, a4, a5, c5, a10, c10, a11, a12, c12, a13, c13, a16, a17, cr, hp, hlt, hl2, hi, nf, ws, wt, e, q1, q2, q4, wl, h1, show m.st.length - 1 < m.st.length by omega, show m.st.length - 1 ≤ m.st.length by omega]
    exact k1 rfl _ ⟨by simp [a1], by simp [a4], by simp [a5], by simp [c5], by simp [a10], by simp [c10], by simp [a11], ⟨sn, _, by simp [a12], by simp [c12], sr, rfl, by simp [cr]⟩, ⟨sf, s2, by simp [a13], by simp [c13]⟩, by simpa [AccIs] using a14, by refine .inr ⟨st, es, ?_, ?_, ?_, ?_⟩ <;> simp [q2, q5] <;> omega, by simp [a16], by simp [atV_nn _ hj]⟩
  · rw [if_neg h1] at k1
    simp [rrun_l0, a1, a4, a5, c5, a10, c10, a11, a12, c12, a13, c13, a16, a17, cr, hp, hlt, hl2, hi, nf, ws, wt, e, q1, q2, q4, wl, h1, show m.st.length - 1 < m.st.length by omega, show m.st.length - 1 ≤ m.st.length by omega]
    exact k1 rfl _ ⟨by simp [a1], by simp [a4], by simp [a5], by simp [c5], by simp [a10], by simp [c10], by simp [a11], ⟨sn, _, by simp [a12], by simp [c12], sr, rfl, by simp [cr]⟩, ⟨sf, s2, by simp [a13], by simp [c13]⟩, by simpa [AccIs] using a14, by refine .inr ⟨st, es, ?_, ?_, ?_, ?_⟩ <;> simp [q2, q5] <;> omega, by simp [a16], by simp [atV_nn _ (show 0 ≤ m.pc + 1 by omega)]⟩
theorem rr23 {F : Fx} {p : Prg} {l : Lcl} {code : List Ins} {m : Mach} {s : Int} {i : Ins} {κ : Ex → St → Prop} {S : St} (hF : F.p = p) (h : RIs F p l code m s S) (hp : 0 ≤ m.pc) (hlt : m.pc.toNat < code.length) (hi : code[m.pc.toNat] = i) (hs : 0 ≤ s ∧ s < p.fuel ∧ s ≤ 1000) (ok : DoOk F i m) (e : i.op = 23) (hk : RPost F p l code m s i κ) : V Try.prog rrun_l0 κ S := by
  obtain ⟨a1, a4, a5, c5, a10, c10, a11, ⟨sn, r, a12, c12, sr, rfl, cr⟩, ⟨sf, s2, a13, c13⟩, a14, a15, a16, a17⟩ := h
  obtain ⟨⟨_, _⟩, tk, rg, ag, sd, ⟨w1, w2⟩, rl, nl, pc, sl⟩ := ok
  obtain ⟨k1, k2⟩ := hk
  rw [atV_nn _ hp] at a17
  have ws : IntKind.i64.wrap (m.pc + 1) = m.pc + 1 := wrap_in _ (by omega) (by omega)
  have wt : IntKind.i64.wrap (s + 1) = s + 1 := wrap_in _ (by omega) (by omega)
  have hl2 : m.pc < code.length := by omega
  have nf : ¬ (p.fuel ≤ s) := by omega
  have z8 : (m.st.length + 1) * 8 ≤ 140737488355328 := by omega
  simp [takesV, e, popsV] at tk
  have hd : doV F i m = ({ m with pc := m.pc + 1, armed := m.armed || !decide ((F.p.as[F.who.toNat]?.map Actr.timer).getD 0 = -1) }, 0) := by simp [doV, e]
  rw [hd] at k1 k2
  have hw : F.who.toNat < p.as.length := by rw [← hF]; exact w2
  have hx : F.p.as[F.who.toNat]? = some (p.as[F.who.toNat]) := by rw [hF]; exact List.getElem?_eq_getElem hw
  rw [hx] at k1
  simp only [Option.map_some, Option.getD_some] at k1
  cases hm : m.armed
  · by_cases h1 : p.as[F.who.toNat].timer = -1
    · simp [rrun_l0, a1, a4, a5, c5, a10, c10, a11, a12, c12, a13, c13, a16, a17, cr, hp, hlt, hl2, hi, nf, ws, wt, e, a15.len, hm, h1, w1, hw]
      exact k1 trivial _ ⟨by simp [a1], by simp [a4], by simp [a5], by simp [c5], by simp [a10], by simp [c10], by simp [a11], ⟨sn, _, by simp [a12], by simp [c12, hm, h1], sr, rfl, by simp [cr]⟩, ⟨sf, s2, by simp [a13], by simp [c13]⟩, by simpa [AccIs] using a14, by simpa [StkR] using a15, by simp [a16], by simp [atV_nn _ (show 0 ≤ m.pc + 1 by omega)]⟩
    · simp [rrun_l0, a1, a4, a5, c5, a10, c10, a11, a12, c12, a13, c13, a16, a17, cr, hp, hlt, hl2, hi, nf, ws, wt, e, a15.len, hm, h1, w1, hw]
      exact k1 trivial _ ⟨by simp [a1], by simp [a4], by simp [a5], by simp [c5], by simp [a10], by simp [c10], by simp [a11], ⟨sn, _, by simp [a12], by simp [c12, hm, h1], sr, rfl, by simp [cr]⟩, ⟨sf, s2, by simp [a13], by simp [c13]⟩, by simpa [AccIs] using a14, by simpa [StkR] using a15, by simp [a16], by simp [atV_nn _ (show 0 ≤ m.pc + 1 by omega)]⟩
  · simp [rrun_l0, a1, a4, a5, c5, a10, c10, a11, a12, c12, a13, c13, a16, a17, cr, hp, hlt, hl2, hi, nf, ws, wt, e, a15.len, hm]
    exact k1 trivial _ ⟨by simp [a1], by simp [a4], by simp [a5], by simp [c5], by simp [a10], by simp [c10], by simp [a11], ⟨sn, _, by simp [a12], by simp [c12, hm], sr, rfl, by simp [cr]⟩, ⟨sf, s2, by simp [a13], by simp [c13]⟩, by simpa [AccIs] using a14, by simpa [StkR] using a15, by simp [a16], by simp [atV_nn _ (show 0 ≤ m.pc + 1 by omega)]⟩
theorem rr22 {F : Fx} {p : Prg} {l : Lcl} {code : List Ins} {m : Mach} {s : Int} {i : Ins} {κ : Ex → St → Prop} {S : St} (hF : F.p = p) (h : RIs F p l code m s S) (hp : 0 ≤ m.pc) (hlt : m.pc.toNat < code.length) (hi : code[m.pc.toNat] = i) (hs : 0 ≤ s ∧ s < p.fuel ∧ s ≤ 1000) (ok : DoOk F i m) (e : i.op = 22) (hk : RPost F p l code m s i κ) : V Try.prog rrun_l0 κ S := by
  obtain ⟨a1, a4, a5, c5, a10, c10, a11, ⟨sn, r, a12, c12, sr, rfl, cr⟩, ⟨sf, s2, a13, c13⟩, a14, a15, a16, a17⟩ := h
  obtain ⟨⟨_, _⟩, tk, rg, ag, sd, ⟨w1, w2⟩, rl, nl, pc, sl⟩ := ok
  obtain ⟨k1, k2⟩ := hk
  rw [atV_nn _ hp] at a17
  have ws : IntKind.i64.wrap (m.pc + 1) = m.pc + 1 := wrap_in _ (by omega) (by omega)
  have wt : IntKind.i64.wrap (s + 1) = s + 1 := wrap_in _ (by omega) (by omega)
  have hl2 : m.pc < code.length := by omega
  have nf : ¬ (p.fuel ≤ s) := by omega
  have z8 : (m.st.length + 1) * 8 ≤ 140737488355328 := by omega
  have hd : doV F i m = (if top m.st < 0 ∨ top m.st ≥ F.p.as.length then ({ m with pc := m.pc + 1, st := m.st.dropLast }, 4)
     else ({ m with pc := m.pc + 1, st := m.st.take (m.st.length - 1 - argsN F i.a), notes := m.notes ++ [⟨top m.st, i.a, m.st.dropLast.drop (m.st.length - 1 - argsN F i.a)⟩] }, 0)) := by simp [doV, e]
  rw [hd] at k1 k2
  simp [takesV, e, popsV] at tk
  obtain ⟨d0, d1, d2⟩ := sd e
  rw [hF] at d1 d2 tk
  have hh : p.hs[i.a.toNat]? = some (p.hs[i.a.toNat]) := List.getElem?_eq_getElem d1
  have hargs : p.hs[i.a.toNat].args = argsOf p.hs i.a := by unfold argsOf; rw [hh]; rfl
  have hN : (argsN F i.a : Int) = argsOf p.hs i.a := by unfold argsN; rw [hF]; omega
  have hN2 : p.hs[i.a.toNat].args = (argsN F i.a : Int) := by rw [hN, hargs]
  generalize hn : argsN F i.a = n at *
  have hlen : n + 1 ≤ m.st.length := by omega
  have wl : IntKind.i64.wrap ((m.st.length : Int) - 1) = ((m.st.length - 1 : Nat) : Int) := by rw [wrap_in _ (by omega) (by omega)]; omega
  have wl2 : IntKind.i64.wrap (((m.st.length - 1 : Nat) : Int) - (n : Int)) = ((m.st.length - 1 - n : Nat) : Int) := by rw [wrap_in _ (by omega) (by omega)]; omega
  obtain ⟨st, es, q1, q2, q3, q4, q5, q6⟩ := a15.top1 (by omega)
  have q7 : es.take (m.st.length - 1 - n) = (m.st.take (m.st.length - 1 - n)).map iv := StkR.tk q6 _ (by omega)
  have q8 : List.take (m.st.length - 1 - (m.st.length - 1 - n)) (List.drop (m.st.length - 1 - n) es) = (m.st.dropLast.drop (m.st.length - 1 - n)).map iv := by
    rw [← List.drop_take, q5, List.map_drop]
  have hbl : (m.st.dropLast.drop (m.st.length - 1 - n)).length = n := by simp; omega
  generalize hb : m.st.dropLast.drop (m.st.length - 1 - n) = b at *
  have hap : F.p.as.length = p.as.length := by rw [hF]
  have hli : ∀ blk : Nat → Option Blk, blk 1000046015 = some ⟨st, 1, es⟩ → listOf blk 1 (.sl 1000046015 st 1 (m.st.length - 1 - n) n) = some (b.map iv) := by
    intro blk hblk
    have q9 : List.take n (List.drop (m.st.length - 1 - n) es) = b.map iv := by rw [show m.st.length - 1 - (m.st.length - 1 - n) = n by omega] at q8; exact q8
    simp [listOf, getB, hblk, q9, show m.st.length - 1 - n + n ≤ es.length by omega, AV.cells, AV.cl1]
  by_cases hc : top m.st < 0 ∨ top m.st ≥ F.p.as.length
  · rw [if_pos hc] at k1 k2
    rw [hap] at hc
    by_cases hc1 : top m.st < 0
    · simp [rrun_l0, a1, a4, a5, c5, a10, c10, a11, a12, c12, a13, c13, a16, a17, cr, hp, hlt, hl2, hi, nf, ws, wt, e, q1, q2, q4, wl, d0, d1, hc1, show m.st.length - 1 < m.st.length by omega, show m.st.length - 1 ≤ m.st.length by omega]
      exact k2 (by simp) _ s2 (by simp [a10]) (by simp [c10])
    · have hc2 : (p.as.length : Int) ≤ top m.st := by omega
      simp [rrun_l0, a1, a4, a5, c5, a10, c10, a11, a12, c12, a13, c13, a16, a17, cr, hp, hlt, hl2, hi, nf, ws, wt, e, q1, q2, q4, wl, d0, d1, hc1, hc2, show m.st.length - 1 < m.st.length by omega, show m.st.length - 1 ≤ m.st.length by omega]
      exact k2 (by simp) _ s2 (by simp [a10]) (by simp [c10])
  · rw [if_neg hc] at k1 k2
    rw [hap] at hc
    have hc1 : ¬ top m.st < 0 := by omega
    have hc2 : ¬ (p.as.length : Int) ≤ top m.st := by omega
    have z1 : n * 8 ≤ 140737488355328 := by omega
    rcases a14 with ⟨u1, u2⟩ | ⟨s3, u1, u2⟩
    · simp at u2
      simp [rrun_l0, a1, a4, a5, c5, a10, c10, a11, a12, c12, a13, c13, a16, a17, cr, hp, hlt, hl2, hi, nf, ws, wt, e, q1, q2, q4, wl, wl2, hN2, d0, d1, hc1, hc2, hli, hbl, z1, u1, show m.st.length - 1 - n ≤ m.st.length - 1 by omega, show m.st.length - 1 - n ≤ m.st.length by omega, show (m.notes.length + 1) * 40 ≤ 140737488355328 by omega, show m.st.length - 1 - n + (m.st.length - 1 - (m.st.length - 1 - n)) ≤ es.length by omega, show m.st.length - 1 ≤ es.length by omega, show m.st.length - 1 - (m.st.length - 1 - n) = n by omega, show m.st.length - 1 < m.st.length by omega, show m.st.length - 1 ≤ m.st.length by omega]
      exact k1 rfl _ ⟨by simp [a1], by simp [a4], by simp [a5], by simp [c5], by simp [a10], by simp [c10], by simp [a11], ⟨sn, _, by simp [a12], by simp [c12], sr, rfl, by simp [cr]⟩, ⟨sf, s2, by simp [a13], by simp [c13]⟩, by simp [AccIs, u2], by refine .inr ⟨st, es, ?_, ?_, ?_, ?_⟩ <;> simp [q2, q7, show min (m.st.length - 1 - n) m.st.length = m.st.length - 1 - n by omega] <;> omega, by simp [a16], by simp [atV_nn _ (show 0 ≤ m.pc + 1 by omega)]⟩
    · simp [rrun_l0, a1, a4, a5, c5, a10, c10, a11, a12, c12, a13, c13, a16, a17, cr, hp, hlt, hl2, hi, nf, ws, wt, e, q1, q2, q4, wl, wl2, hN2, d0, d1, hc1, hc2, hli, hbl, z1, u1, u2, show m.st.length - 1 - n ≤ m.st.length - 1 by omega, show m.st.length - 1 - n ≤ m.st.length by omega, show (m.notes.length + 1) * 40 ≤ 140737488355328 by omega, show m.st.length - 1 - n + (m.st.length - 1 - (m.st.length - 1 - n)) ≤ es.length by omega, show m.st.length - 1 ≤ es.length by omega, show m.st.length - 1 - (m.st.length - 1 - n) = n by omega, show m.st.length - 1 < m.st.length by omega, show m.st.length - 1 ≤ m.st.length by omega]
      exact k1 rfl _ ⟨by simp [a1], by simp [a4], by simp [a5], by simp [c5], by simp [a10], by simp [c10], by simp [a11], ⟨sn, _, by simp [a12], by simp [c12], sr, rfl, by simp [cr]⟩, ⟨sf, s2, by simp [a13], by simp [c13]⟩, by simp [AccIs, u2], by refine .inr ⟨st, es, ?_, ?_, ?_, ?_⟩ <;> simp [q2, q7, show min (m.st.length - 1 - n) m.st.length = m.st.length - 1 - n by omega] <;> omega, by simp [a16], by simp [atV_nn _ (show 0 ≤ m.pc + 1 by omega)]⟩

end Go.Gv

/- Rounds of the reference's run (1). -/
set_option linter.unusedVariables false
set_option linter.unusedSimpArgs false
namespace Go.Gv
open Go.Proofs

theorem rr9 {F : Fx} {p : Prg} {l : Lcl} {code : List Ins} {m : Mach} {s : Int} {i : Ins} {κ : Ex → St → Prop} {S : St} (hF : F.p = p) (h : RIs F p l code m s S) (hp : 0 ≤ m.pc) (hlt : m.pc.toNat < code.length) (hi : code[m.pc.toNat] = i) (hs : 0 ≤ s ∧ s < p.fuel ∧ s ≤ 1000) (ok : DoOk F i m) (e : i.op = 9) (hk : RPost F p l code m s i κ) : V Try.prog rrun_l0 κ S := by
  obtain ⟨a1, a4, a5, c5, a10, c10, a11, ⟨sn, r, a12, c12, sr, rfl, cr⟩, ⟨sf, s2, a13, c13⟩, a14, a15, a16, a17⟩ := h
  obtain ⟨⟨_, _⟩, tk, rg, ag, sd, ⟨w1, w2⟩, rl, nl, pc, sl⟩ := ok
  obtain ⟨k1, k2⟩ := hk
  rw [atV_nn _ hp] at a17
  have ws : IntKind.i64.wrap (m.pc + 1) = m.pc + 1 := wrap_in _ (by omega) (by omega)
  have wt : IntKind.i64.wrap (s + 1) = s + 1 := wrap_in _ (by omega) (by omega)
  have hl2 : m.pc < code.length := by omega
  have nf : ¬ (p.fuel ≤ s) := by omega
  have z8 : (m.st.length + 1) * 8 ≤ 140737488355328 := by omega
  simp [takesV, e, popsV] at tk
  have hd : doV F i m = ({ m with pc := m.pc + 1, st := m.st.dropLast.dropLast ++ [(twoV 9 (top m.st.dropLast) (top m.st)).1] }, (twoV 9 (top m.st.dropLast) (top m.st)).2) := by simp [doV, e, oneV]
  rw [hd] at k1 k2
  have wl : IntKind.i64.wrap ((m.st.length : Int) - 1) = ((m.st.length - 1 : Nat) : Int) := by rw [wrap_in _ (by omega) (by omega)]; omega
  have wl2 : IntKind.i64.wrap ((m.st.length : Int) - 2) = ((m.st.length - 2 : Nat) : Int) := by rw [wrap_in _ (by omega) (by omega)]; omega
  obtain ⟨st, es, q1, q2, q3, q4, q5, q6⟩ := a15.top2 (by omega)
  have hxl : m.st.dropLast.dropLast.length = m.st.length - 2 := by simp; omega
  generalize hxs : m.st.dropLast.dropLast = xs at *
  simp [rrun_l0, a1, a4, a5, c5, a10, c10, a11, a12, c12, a13, c13, a16, a17, cr, hp, hlt, hl2, hi, nf, ws, wt, e, q1, q2, q3, q4, q5, q6, wl, wl2, z8, show m.st.length - 1 < m.st.length by omega, show m.st.length - 1 ≤ m.st.length by omega, show m.st.length - 2 < m.st.length by omega, show m.st.length - 2 ≤ m.st.length by omega, show m.st.length - 2 ≤ es.length by omega, show (m.st.length - 2 + 1) * 8 ≤ 140737488355328 by omega, show (m.st.length - 1 + 1) * 8 ≤ 140737488355328 by omega, show (m.st.length - 2 + 2) * 8 ≤ 140737488355328 by omega, show m.st.length - 1 ≤ es.length by omega, show m.st.length ≤ es.length + 2 by omega, show m.st.length ≤ es.length + 1 by omega, show (xs.length + 2) * 8 ≤ 140737488355328 by omega, show (xs.length + 1) * 8 ≤ 140737488355328 by omega, show xs.length * 8 ≤ 140737488355328 by omega]
  refine calld (rtwo_pc 9 (top m.st.dropLast) (top m.st)) (by simp) ?_
  generalize hT : twoV 9 (top m.st.dropLast) (top m.st) = T at *
  by_cases hz : T.2 = 0
  · rw [hz] at k1 k2
    simp [rrun_l0, a1, a4, a5, c5, a10, c10, a11, a12, c12, a13, c13, a16, a17, cr, hp, hlt, hl2, hi, nf, ws, wt, e, q1, q2, q3, q4, q5, q6, wl, wl2, z8, hz, show m.st.length - 1 < m.st.length by omega, show m.st.length - 1 ≤ m.st.length by omega, show m.st.length - 2 < m.st.length by omega, show m.st.length - 2 ≤ m.st.length by omega, show m.st.length - 2 ≤ es.length by omega, show (m.st.length - 2 + 1) * 8 ≤ 140737488355328 by omega, show (m.st.length - 1 + 1) * 8 ≤ 140737488355328 by omega, show (m.st.length - 2 + 2) * 8 ≤ 140737488355328 by omega, show m.st.length - 1 ≤ es.length by omega, show m.st.length ≤ es.length + 2 by omega, show m.st.length ≤ es.length + 1 by omega, show (xs.length + 2) * 8 ≤ 140737488355328 by omega, show (xs.length + 1) * 8 ≤ 140737488355328 by omega, show xs.length * 8 ≤ 140737488355328 by omega]
    exact k1 rfl _ ⟨by simp [a1], by simp [a4], by simp [a5], by simp [c5], by simp [a10], by simp [c10], by simp [a11], ⟨sn, _, by simp [a12], by simp [c12], sr, rfl, by simp [cr]⟩, ⟨sf, s2, by simp [a13], by simp [c13]⟩, by simpa [AccIs] using a14, by simp [StkR, List.take_of_length_le], by simp [a16], by simp [atV_nn _ (show 0 ≤ m.pc + 1 by omega)]⟩
  · simp [rrun_l0, a1, a4, a5, c5, a10, c10, a11, a12, c12, a13, c13, a16, a17, cr, hp, hlt, hl2, hi, nf, ws, wt, e, q1, q2, q3, q4, q5, q6, wl, wl2, z8, hz, show m.st.length - 1 < m.st.length by omega, show m.st.length - 1 ≤ m.st.length by omega, show m.st.length - 2 < m.st.length by omega, show m.st.length - 2 ≤ m.st.length by omega, show m.st.length - 2 ≤ es.length by omega, show (m.st.length - 2 + 1) * 8 ≤ 140737488355328 by omega, show (m.st.length - 1 + 1) * 8 ≤ 140737488355328 by omega, show (m.st.length - 2 + 2) * 8 ≤ 140737488355328 by omega, show m.st.length - 1 ≤ es.length by omega, show m.st.length ≤ es.length + 2 by omega, show m.st.length ≤ es.length + 1 by omega, show (xs.length + 2) * 8 ≤ 140737488355328 by omega, show (xs.length + 1) * 8 ≤ 140737488355328 by omega, show xs.length * 8 ≤ 140737488355328 by omega]
    exact k2 hz _ s2 (by simp [a10]) (by simp [c10])
theorem rr10 {F : Fx} {p : Prg} {l : Lcl} {code : List Ins} {m : Mach} {s : Int} {i : Ins} {κ : Ex → St → Prop} {S : St} (hF : F.p = p) (h : RIs F p l code m s S) (hp : 0 ≤ m.pc) (hlt : m.pc.toNat < code.length) (hi : code[m.pc.toNat] = i) (hs : 0 ≤ s ∧ s < p.fuel ∧ s ≤ 1000) (ok : DoOk F i m) (e : i.op = 10) (hk : RPost F p l code m s i κ) : V Try.prog rrun_l0 κ S := by
  obtain ⟨a1, a4, a5, c5, a10, c10, a11, ⟨sn, r, a12, c12, sr, rfl, cr⟩, ⟨sf, s2, a13, c13⟩, a14, a15, a16, a17⟩ := h
  obtain ⟨⟨_, _⟩, tk, rg, ag, sd, ⟨w1, w2⟩, rl, nl, pc, sl⟩ := ok
  obtain ⟨k1, k2⟩ := hk
  rw [atV_nn _ hp] at a17
  have ws : IntKind.i64.wrap (m.pc + 1) = m.pc + 1 := wrap_in _ (by omega) (by omega)
  have wt : IntKind.i64.wrap (s + 1) = s + 1 := wrap_in _ (by omega) (by omega)
  have hl2 : m.pc < code.length := by omega
  have nf : ¬ (p.fuel ≤ s) := by omega
  have z8 : (m.st.length + 1) * 8 ≤ 140737488355328 := by omega
  simp [takesV, e, popsV] at tk
  have hd : doV F i m = ({ m with pc := m.pc + 1, st := m.st.dropLast.dropLast ++ [(twoV 10 (top m.st.dropLast) (top m.st)).1] }, (twoV 10 (top m.st.dropLast) (top m.st)).2) := by simp [doV, e, oneV]
  rw [hd] at k1 k2
  have wl : IntKind.i64.wrap ((m.st.length : Int) - 1) = ((m.st.length - 1 : Nat) : Int) := by rw [wrap_in _ (by omega) (by omega)]; omega
  have wl2 : IntKind.i64.wrap ((m.st.length : Int) - 2) = ((m.st.length - 2 : Nat) : Int) := by rw [wrap_in _ (by omega) (by omega)]; omega
  obtain ⟨st, es, q1, q2, q3, q4, q5, q6⟩ := a15.top2 (by omega)
  have hxl : m.st.dropLast.dropLast.length = m.st.length - 2 := by simp; omega
  generalize hxs : m.st.dropLast.dropLast = xs at *
  simp [rrun_l0, a1, a4, a5, c5, a10, c10, a11, a12, c12, a13, c13, a16, a17, cr, hp, hlt, hl2, hi, nf, ws, wt, e, q1, q2, q3, q4, q5, q6, wl, wl2, z8, show m.st.length - 1 < m.st.length by omega, show m.st.length - 1 ≤ m.st.length by omega, show m.st.length - 2 < m.st.length by omega, show m.st.length - 2 ≤ m.st.length by omega, show m.st.length - 2 ≤ es.length by omega, show (m.st.length - 2 + 1) * 8 ≤ 140737488355328 by omega, show (m.st.length - 1 + 1) * 8 ≤ 140737488355328 by omega, show (m.st.length - 2 + 2) * 8 ≤ 140737488355328 by omega, show m.st.length - 1 ≤ es.length by omega, show m.st.length ≤ es.length + 2 by omega, show m.st.length ≤ es.length + 1 by omega, show (xs.length + 2) * 8 ≤ 140737488355328 by omega, show (xs.length + 1) * 8 ≤ 140737488355328 by omega, show xs.length * 8 ≤ 140737488355328 by omega]
  refine calld (rtwo_pc 10 (top m.st.dropLast) (top m.st)) (by simp) ?_
  generalize hT : twoV 10 (top m.st.dropLast) (top m.st) = T at *
  by_cases hz : T.2 = 0
  · rw [hz] at k1 k2
    simp [rrun_l0, a1, a4, a5, c5, a10, c10, a11, a12, c12, a13, c13, a16, a17, cr, hp, hlt, hl2, hi, nf, ws, wt, e, q1, q2, q3, q4, q5, q6, wl, wl2, z8, hz, show m.st.length - 1 < m.st.length by omega, show m.st.length - 1 ≤ m.st.length by omega, show m.st.length - 2 < m.st.length by omega, show m.st.length - 2 ≤ m.st.length by omega, show m.st.length - 2 ≤ es.length by omega, show (m.st.length - 2 + 1) * 8 ≤ 140737488355328 by omega, show (m.st.length - 1 + 1) * 8 ≤ 140737488355328 by omega, show (m.st.length - 2 + 2) * 8 ≤ 140737488355328 by omega, show m.st.length - 1 ≤ es.length by omega, show m.st.length ≤ es.length + 2 by omega, show m.st.length ≤ es.length + 1 by omega, show (xs.length + 2) * 8 ≤ 140737488355328 by omega, show (xs.length + 1) * 8 ≤ 140737488355328 by omega, show xs.length * 8 ≤ 140737488355328 by omega]
    exact k1 rfl _ ⟨by simp [a1], by simp [a4], by simp [a5], by simp [c5], by simp [a10], by simp [c10], by simp [a11], ⟨sn, _, by simp [a12], by simp [c12], sr, rfl, by simp [cr]⟩, ⟨sf, s2, by simp [a13], by simp [c13]⟩, by simpa [AccIs] using a14, by simp [StkR, List.take_of_length_le], by simp [a16], by simp [atV_nn _ (show 0 ≤ m.pc + 1 by omega)]⟩
  · simp [rrun_l0, a1, a4, a5, c5, a10, c10, a11, a12, c12, a13, c13, a16, a17, cr, hp, hlt, hl2, hi, nf, ws, wt, e, q1, q2, q3, q4, q5, q6, wl, wl2, z8, hz, show m.st.length - 1 < m.st.length by omega, show m.st.length - 1 ≤ m.st.length by omega, show m.st.length - 2 < m.st.length by omega, show m.st.length - 2 ≤ m.st.length by omega, show m.st.length - 2 ≤ es.length by omega, show (m.st.length - 2 + 1) * 8 ≤ 140737488355328 by omega, show (m.st.length - 1 + 1) * 8 ≤ 140737488355328 by omega, show (m.st.length - 2 + 2) * 8 ≤ 140737488355328 by omega, show m.st.length - 1 ≤ es.length by omega, show m.st.length ≤ es.length + 2 by omega, show m.st.length ≤ es.length + 1 by omega, show (xs.length + 2) * 8 ≤ 140737488355328 by omega, show (xs.length + 1) * 8 ≤ 140737488355328 by omega, show xs.length * 8 ≤ 140737488355328 by omega]
    exact k2 hz _ s2 (by simp [a10]) (by simp [c10])
theorem rr11 {F : Fx} {p : Prg} {l : Lcl} {code : List Ins} {m : Mach} {s : Int} {i : Ins} {κ : Ex → St → Prop} {S : St} (hF : F.p = p) (h : RIs F p l code m s S) (hp : 0 ≤ m.pc) (hlt : m.pc.toNat < code.length) (hi : code[m.pc.toNat] = i) (hs : 0 ≤ s ∧ s < p.fuel ∧ s ≤ 1000) (ok : DoOk F i m) (e : i.op = 11) (hk : RPost F p l code m s i κ) : V Try.prog rrun_l0 κ S := by
  obtain ⟨a1, a4, a5, c5, a10, c10, a11, ⟨sn, r, a12, c12, sr, rfl, cr⟩, ⟨sf, s2, a13, c13⟩, a14, a15, a16, a17⟩ := h
  obtain ⟨⟨_, _⟩, tk, rg, ag, sd, ⟨w1, w2⟩, rl, nl, pc, sl⟩ := ok
  obtain ⟨k1, k2⟩ := hk
  rw [atV_nn _ hp] at a17
  have ws : IntKind.i64.wrap (m.pc + 1) = m.pc + 1 := wrap_in _ (by omega) (by omega)
  have wt : IntKind.i64.wrap (s + 1) = s + 1 := wrap_in _ (by omega) (by omega)
  have hl2 : m.pc < code.length := by omega
  have nf : ¬ (p.fuel ≤ s) := by omega
  have z8 : (m.st.length + 1) * 8 ≤ 140737488355328 := by omega
  simp [takesV, e, popsV] at tk
  have hd : doV F i m = ({ m with pc := m.pc + 1, st := m.st.dropLast.dropLast ++ [(twoV 11 (top m.st.dropLast) (top m.st)).1] }, (twoV 11 (top m.st.dropLast) (top m.st)).2) := by simp [doV, e, oneV]
  rw [hd] at k1 k2
  have wl : IntKind.i64.wrap ((m.st.length : Int) - 1) = ((m.st.length - 1 : Nat) : Int) := by rw [wrap_in _ (by omega) (by omega)]; omega
  have wl2 : IntKind.i64.wrap ((m.st.length : Int) - 2) = ((m.st.length - 2 : Nat) : Int) := by rw [wrap_in _ (by omega) (by omega)]; omega
  obtain ⟨st, es, q1, q2, q3, q4, q5, q6⟩ := a15.top2 (by omega)
  have hxl : m.st.dropLast.dropLast.length = m.st.length - 2 := by simp; omega
  generalize hxs : m.st.dropLast.dropLast = xs at *
  simp [rrun_l0, a1, a4, a5, c5, a10, c10, a11, a12, c12, a13, c13, a16, a17, cr, hp, hlt, hl2, hi, nf, ws, wt, e, q1, q2, q3, q4, q5, q6, wl, wl2, z8, show m.st.length - 1 < m.st.length by omega, show m.st.length - 1 ≤ m.st.length by omega, show m.st.length - 2 < m.st.length by omega, show m.st.length - 2 ≤ m.st.length by omega, show m.st.length - 2 ≤ es.length by omega, show (m.st.length - 2 + 1) * 8 ≤ 140737488355328 by omega, show (m.st.length - 1 + 1) * 8 ≤ 140737488355328 by omega, show (m.st.length - 2 + 2) * 8 ≤ 140737488355328 by omega, show m.st.length - 1 ≤ es.length by omega, show m.st.length ≤ es.length + 2 by omega, show m.st.length ≤ es.length + 1 by omega, show (xs.length + 2) * 8 ≤ 140737488355328 by omega, show (xs.length + 1) * 8 ≤ 140737488355328 by omega, show xs.length * 8 ≤ 140737488355328 by omega]
  refine calld (rtwo_pc 11 (top m.st.dropLast) (top m.st)) (by simp) ?_
  generalize hT : twoV 11 (top m.st.dropLast) (top m.st) = T at *
  by_cases hz : T.2 = 0
  · rw [hz] at k1 k2
    simp [rrun_l0, a1, a4, a5, c5, a10, c10, a11, a12, c12, a13, c13, a16, a17, cr, hp, hlt, hl2, hi, nf, ws, wt, e, q1, q2, q3, q4, q5, q6, wl, wl2, z8, hz, show m.st.length - 1 < m.st.length by omega, show m.st.length - 1 ≤ m.st.length by omega, show m.st.length - 2 < m.st.length by omega, show m.st.length - 2 ≤ m.st.length by omega, show m.st.length - 2 ≤ es.length by omega, show (m.st.length - 2 + 1) * 8 ≤ 140737488355328 by omega, show (m.st.length - 1 + 1) * 8 ≤ 140737488355328 by omega, show (m.st.length - 2 + 2) * 8 ≤ 140737488355328 by omega, show m.st.length - 1 ≤ es.length by omega, show m.st.length ≤ es.length + 2 by omega, show m.st.length ≤ es.length + 1 by omega, show (xs.length + 2) * 8 ≤ 140737488355328 by omega, show (xs.length + 1) * 8 ≤ 140737488355328 by omega, show xs.length * 8 ≤ 140737488355328 by omega]
    exact k1 rfl _ ⟨by simp [a1], by simp [a4], by simp [a5], by simp [c5], by simp [a10], by simp [c10], by simp [a11], ⟨sn, _, by simp [a12], by simp [c12], sr, rfl, by simp [cr]⟩, ⟨sf, s2, by simp [a13], by simp [c13]⟩, by simpa [AccIs] using a14, by simp [StkR, List.take_of_length_le], by simp [a16], by simp [atV_nn _ (show 0 ≤ m.pc + 1 by omega)]⟩
  · simp [rrun_l0, a1, a4, a5, c5, a10, c10, a11, a12, c12, a13, c13, a16, a17, cr, hp, hlt, hl2, hi, nf, ws, wt, e, q1, q2, q3, q4, q5, q6, wl, wl2, z8, hz, show m.st.length - 1 < m.st.length by omega, show m.st.length - 1 ≤ m.st.length by omega, show m.st.length - 2 < m.st.length by omega, show m.st.length - 2 ≤ m.st.length by omega, show m.st.length - 2 ≤ es.length by omega, show (m.st.length - 2 + 1) * 8 ≤ 140737488355328 by omega, show (m.st.length - 1 + 1) * 8 ≤ 140737488355328 by omega, show (m.st.length - 2 + 2) * 8 ≤ 140737488355328 by omega, show m.st.length - 1 ≤ es.length by omega, show m.st.length ≤ es.length + 2 by omega, show m.st.length ≤ es.length + 1 by omega, show (xs.length + 2) * 8 ≤ 140737488355328 by omega, show (xs.length + 1) * 8 ≤ 140737488355328 by omega, show xs.length * 8 ≤ 140737488355328 by omega]
    exact k2 hz _ s2 (by simp [a10]) (by simp [c10])
theorem rr12 {F : Fx} {p : Prg} {l : Lcl} {code : List Ins} {m : Mach} {s : Int} {i : Ins} {κ : Ex → St → Prop} {S : St} (hF : F.p = p) (h : RIs F p l code m s S) (hp : 0 ≤ m.pc) (hlt : m.pc.toNat < code.length) (hi : code[m.pc.toNat] = i) (hs : 0 ≤ s ∧ s < p.fuel ∧ s ≤ 1000) (ok : DoOk F i m) (e : i.op = 12) (hk : RPost F p l code m s i κ) : V Try.prog rrun_l0 κ S := by
  obtain ⟨a1, a4, a5, c5, a10, c10, a11, ⟨sn, r, a12, c12, sr, rfl, cr⟩, ⟨sf, s2, a13, c13⟩, a14, a15, a16, a17⟩ := h
  obtain ⟨⟨_, _⟩, tk, rg, ag, sd, ⟨w1, w2⟩, rl, nl, pc, sl⟩ := ok
  obtain ⟨k1, k2⟩ := hk
  rw [atV_nn _ hp] at a17
  have ws : IntKind.i64.wrap (m.pc + 1) = m.pc + 1 := wrap_in _ (by omega) (by omega)
  have wt : IntKind.i64.wrap (s + 1) = s + 1 := wrap_in _ (by omega) (by omega)
  have hl2 : m.pc < code.length := by omega
  have nf : ¬ (p.fuel ≤ s) := by omega
  have z8 : (m.st.length + 1) * 8 ≤ 140737488355328 := by omega
  simp [takesV, e, popsV] at tk
  have hd : doV F i m = ({ m with pc := m.pc + 1, st := m.st.dropLast.dropLast ++ [(twoV 12 (top m.st.dropLast) (top m.st)).1] }, (twoV 12 (top m.st.dropLast) (top m.st)).2) := by simp [doV, e, oneV]
  rw [hd] at k1 k2
  have wl : IntKind.i64.wrap ((m.st.length : Int) - 1) = ((m.st.length - 1 : Nat) : Int) := by rw [wrap_in _ (by omega) (by omega)]; omega
  have wl2 : IntKind.i64.wrap ((m.st.length : Int) - 2) = ((m.st.length - 2 : Nat) : Int) := by rw [wrap_in _ (by omega) (by omega)]; omega
  obtain ⟨st, es, q1, q2, q3, q4, q5, q6⟩ := a15.top2 (by omega)
  have hxl : m.st.dropLast.dropLast.length = m.st.length - 2 := by simp; omega
  generalize hxs : m.st.dropLast.dropLast = xs at *
  simp [rrun_l0, a1, a4, a5, c5, a10, c10, a11, a12, c12, a13, c13, a16, a17, cr, hp, hlt, hl2, hi, nf, ws, wt, e, q1, q2, q3, q4, q5, q6, wl, wl2, z8, show m.st.length - 1 < m.st.length by omega, show m.st.length - 1 ≤ m.st.length by omega, show m.st.length - 2 < m.st.length by omega, show m.st.length - 2 ≤ m.st.length by omega, show m.st.length - 2 ≤ es.length by omega, show (m.st.length - 2 + 1) * 8 ≤ 140737488355328 by omega, show (m.st.length - 1 + 1) * 8 ≤ 140737488355328 by omega, show (m.st.length - 2 + 2) * 8 ≤ 140737488355328 by omega, show m.st.length - 1 ≤ es.length by omega, show m.st.length ≤ es.length + 2 by omega, show m.st.length ≤ es.length + 1 by omega, show (xs.length + 2) * 8 ≤ 140737488355328 by omega, show (xs.length + 1) * 8 ≤ 140737488355328 by omega, show xs.length * 8 ≤ 140737488355328 by omega]
  refine calld (rtwo_pc 12 (top m.st.dropLast) (top m.st)) (by simp) ?_
  generalize hT : twoV 12 (top m.st.dropLast) (top m.st) = T at *
  by_cases hz : T.2 = 0
  · rw [hz] at k1 k2
    simp [rrun_l0, a1, a4, a5, c5, a10, c10, a11, a12, c12, a13, c13, a16, a17, cr, hp, hlt, hl2, hi, nf, ws, wt, e, q1, q2, q3, q4, q5, q6, wl, wl2, z8, hz, show m.st.length - 1 < m.st.length by omega, show m.st.length - 1 ≤ m.st.length by omega, show m.st.length - 2 < m.st.length by omega, show m.st.length - 2 ≤ m.st.length by omega, show m.st.length - 2 ≤ es.length by omega, show (m.st.length - 2 + 1) * 8 ≤ 140737488355328 by omega, show (m.st.length - 1 + 1) * 8 ≤ 140737488355328 by omega, show (m.st.length - 2 + 2) * 8 ≤ 140737488355328 by omega, show m.st.length - 1 ≤ es.length by omega, show m.st.length ≤ es.length + 2 by omega, show m.st.length ≤ es.length + 1 by omega, show (xs.length + 2) * 8 ≤ 140737488355328 by omega, show (xs.length + 1) * 8 ≤ 140737488355328 by omega, show xs.length * 8 ≤ 140737488355328 by omega]
    exact k1 rfl _ ⟨by simp [a1], by simp [a4], by simp [a5], by simp [c5], by simp [a10], by simp [c10], by simp [a11], ⟨sn, _, by simp [a12], by simp [c12], sr, rfl, by simp [cr]⟩, ⟨sf, s2, by simp [a13], by simp [c13]⟩, by simpa [AccIs] using a14, by simp [StkR, List.take_of_length_le], by simp [a16], by simp [atV_nn _ (show 0 ≤ m.pc + 1 by omega)]⟩
  · simp [rrun_l0, a1, a4, a5, c5, a10, c10, a11, a12, c12, a13, c13, a16, a17, cr, hp, hlt, hl2, hi, nf, ws, wt, e, q1, q2, q3, q4, q5, q6, wl, wl2, z8, hz, show m.st.length - 1 < m.st.length by omega, show m.st.length - 1 ≤ m.st.length by omega, show m.st.length - 2 < m.st.length by omega, show m.st.length - 2 ≤ m.st.length by omega, show m.st.length - 2 ≤ es.length by omega, show (m.st.length - 2 + 1) * 8 ≤ 140737488355328 by omega, show (m.st.length - 1 + 1) * 8 ≤ 140737488355328 by omega, show (m.st.length - 2 + 2) * 8 ≤ 140737488355328 by omega, show m.st.length - 1 ≤ es.length by omega, show m.st.length ≤ es.length + 2 by omega, show m.st.length ≤ es.length + 1 by omega, show (xs.length + 2) * 8 ≤ 140737488355328 by omega, show (xs.length + 1) * 8 ≤ 140737488355328 by omega, show xs.length * 8 ≤ 140737488355328 by omega]
    exact k2 hz _ s2 (by simp [a10]) (by simp [c10])
theorem rr13 {F : Fx} {p : Prg} {l : Lcl} {code : List Ins} {m : Mach} {s : Int} {i : Ins} {κ : Ex → St → Prop} {S : St} (hF : F.p = p) (h : RIs F p l code m s S) (hp : 0 ≤ m.pc) (hlt : m.pc.toNat < code.length) (hi : code[m.pc.toNat] = i) (hs : 0 ≤ s ∧ s < p.fuel ∧ s ≤ 1000) (ok : DoOk F i m) (e : i.op = 13) (hk : RPost F p l code m s i κ) : V Try.prog rrun_l0 κ S := by
  obtain ⟨a1, a4, a5, c5, a10, c10, a11, ⟨sn, r, a12, c12, sr, rfl, cr⟩, ⟨sf, s2, a13, c13⟩, a14, a15, a16, a17⟩ := h
  obtain ⟨⟨_, _⟩, tk, rg, ag, sd, ⟨w1, w2⟩, rl, nl, pc, sl⟩ := ok
  obtain ⟨k1, k2⟩ := hk
  rw [atV_nn _ hp] at a17
  have ws : IntKind.i64.wrap (m.pc + 1) = m.pc + 1 := wrap_in _ (by omega) (by omega)
  have wt : IntKind.i64.wrap (s + 1) = s + 1 := wrap_in _ (by omega) (by omega)
  have hl2 : m.pc < code.length := by omega
  have nf : ¬ (p.fuel ≤ s) := by omega
  have z8 : (m.st.length + 1) * 8 ≤ 140737488355328 := by omega
  simp [takesV, e, popsV] at tk
  have hd : doV F i m = ({ m with pc := m.pc + 1, st := m.st.dropLast.dropLast ++ [(twoV 13 (top m.st.dropLast) (top m.st)).1] }, (twoV 13 (top m.st.dropLast) (top m.st)).2) := by simp [doV, e, oneV]
  rw [hd] at k1 k2
  have wl : IntKind.i64.wrap ((m.st.length : Int) - 1) = ((m.st.length - 1 : Nat) : Int) := by rw [wrap_in _ (by omega) (by omega)]; omega
  have wl2 : IntKind.i64.wrap ((m.st.length : Int) - 2) = ((m.st.length - 2 : Nat) : Int) := by rw [wrap_in _ (by omega) (by omega)]; omega
  obtain ⟨st, es, q1, q2, q3, q4, q5, q6⟩ := a15.top2 (by omega)
  have hxl : m.st.dropLast.dropLast.length = m.st.length - 2 := by simp; omega
  generalize hxs : m.st.dropLast.dropLast = xs at *
  simp [rrun_l0, a1, a4, a5, c5, a10, c10, a11, a12, c12, a13, c13, a16, a17, cr, hp, hlt, hl2, hi, nf, ws, wt, e, q1, q2, q3, q4, q5, q6, wl, wl2, z8, show m.st.length - 1 < m.st.length by omega, show m.st.length - 1 ≤ m.st.length by omega, show m.st.length - 2 < m.st.length by omega, show m.st.length - 2 ≤ m.st.length by omega, show m.st.length - 2 ≤ es.length by omega, show (m.st.length - 2 + 1) * 8 ≤ 140737488355328 by omega, show (m.st.length - 1 + 1) * 8 ≤ 140737488355328 by omega, show (m.st.length - 2 + 2) * 8 ≤ 140737488355328 by omega, show m.st.length - 1 ≤ es.length by omega, show m.st.length ≤ es.length + 2 by omega, show m.st.length ≤ es.length + 1 by omega, show (xs.length + 2) * 8 ≤ 140737488355328 by omega, show (xs.length + 1) * 8 ≤ 140737488355328 by omega, show xs.length * 8 ≤ 140737488355328 by omega]
  refine calld (rtwo_pc 13 (top m.st.dropLast) (top m.st)) (by simp) ?_
  generalize hT : twoV 13 (top m.st.dropLast) (top m.st) = T at *
  by_cases hz : T.2 = 0
  · rw [hz] at k1 k2
    simp [rrun_l0, a1, a4, a5, c5, a10, c10, a11, a12, c12, a13, c13, a16, a17, cr, hp, hlt, hl2, hi, nf, ws, wt, e, q1, q2, q3, q4, q5, q6, wl, wl2, z8, hz, show m.st.length - 1 < m.st.length by omega, show m.st.length - 1 ≤ m.st.length by omega, show m.st.length - 2 < m.st.length by omega, show m.st.length - 2 ≤ m.st.length by omega, show m.st.length - 2 ≤ es.length by omega, show (m.st.length - 2 + 1) * 8 ≤ 140737488355328 by omega, show (m.st.length - 1 + 1) * 8 ≤ 140737488355328 by omega, show (m.st.length - 2 + 2) * 8 ≤ 140737488355328 by omega, show m.st.length - 1 ≤ es.length by omega, show m.st.length ≤ es.length + 2 by omega, show m.st.length ≤ es.length + 1 by omega, show (xs.length + 2) * 8 ≤ 140737488355328 by omega, show (xs.length + 1) * 8 ≤ 140737488355328 by omega, show xs.length * 8 ≤ 140737488355328 by omega]
    exact k1 rfl _ ⟨by simp [a1], by simp [a4], by simp [a5], by simp [c5], by simp [a10], by simp [c10], by simp [a11], ⟨sn, _, by simp [a12], by simp [c12], sr, rfl, by simp [cr]⟩, ⟨sf, s2, by simp [a13], by simp [c13]⟩, by simpa [AccIs] using a14, by simp [StkR, List.take_of_length_le], by simp [a16], by simp [atV_nn _ (show 0 ≤ m.pc + 1 by omega)]⟩
  · simp [rrun_l0, a1, a4, a5, c5, a10, c10, a11, a12, c12, a13, c13, a16, a17, cr, hp, hlt, hl2, hi, nf, ws, wt, e, q1, q2, q3, q4, q5, q6, wl, wl2, z8, hz, show m.st.length - 1 < m.st.length by omega, show m.st.length - 1 ≤ m.st.length by omega, show m.st.length - 2 < m.st.length by omega, show m.st.length - 2 ≤ m.st.length by omega, show m.st.length - 2 ≤ es.length by omega, show (m.st.length - 2 + 1) * 8 ≤ 140737488355328 by omega, show (m.st.length - 1 + 1) * 8 ≤ 140737488355328 by omega, show (m.st.length - 2 + 2) * 8 ≤ 140737488355328 by omega, show m.st.length - 1 ≤ es.length by omega, show m.st.length ≤ es.length + 2 by omega, show m.st.length ≤ es.length + 1 by omega, show (xs.length + 2) * 8 ≤ 140737488355328 by omega, show (xs.length + 1) * 8 ≤ 140737488355328 by omega, show xs.length * 8 ≤ 140737488355328 by omega]
    exact k2 hz _ s2 (by simp [a10]) (by simp [c10])

end Go.Gv

/- Rounds of the reference's run (1). -/
set_option linter.unusedVariables false
set_option linter.unusedSimpArgs false
namespace Go.Gv
open Go.Proofs

theorem rr15 {F : Fx} {p : Prg} {l : Lcl} {code : List Ins} {m : Mach} {s : Int} {i : Ins} {κ : Ex → St → Prop} {S : St} (hF : F.p = p) (h : RIs F p l code m s S) (hp : 0 ≤ m.pc) (hlt : m.pc.toNat < code.length) (hi : code[m.pc.toNat] = i) (hs : 0 ≤ s ∧ s < p.fuel ∧ s ≤ 1000) (ok : DoOk F i m) (e : i.op = 15) (hk : RPost F p l code m s i κ) : V Try.prog rrun_l0 κ S := by
  obtain ⟨a1, a4, a5, c5, a10, c10, a11, ⟨sn, r, a12, c12, sr, rfl, cr⟩, ⟨sf, s2, a13, c13⟩, a14, a15, a16, a17⟩ := h
  obtain ⟨⟨_, _⟩, tk, rg, ag, sd, ⟨w1, w2⟩, rl, nl, pc, sl⟩ := ok
  obtain ⟨k1, k2⟩ := hk
  rw [atV_nn _ hp] at a17
  have ws : IntKind.i64.wrap (m.pc + 1) = m.pc + 1 := wrap_in _ (by omega) (by omega)
  have wt : IntKind.i64.wrap (s + 1) = s + 1 := wrap_in _ (by omega) (by omega)
  have hl2 : m.pc < code.length := by omega
  have nf : ¬ (p.fuel ≤ s) := by omega
  have z8 : (m.st.length + 1) * 8 ≤ 140737488355328 := by omega
  simp [takesV, e, popsV] at tk
  have hd : doV F i m = ({ m with pc := m.pc + 1, st := m.st.dropLast.dropLast ++ [(twoV 15 (top m.st.dropLast) (top m.st)).1] }, (twoV 15 (top m.st.dropLast) (top m.st)).2) := by simp [doV, e, oneV]
  rw [hd] at k1 k2
  have wl : IntKind.i64.wrap ((m.st.length : Int) - 1) = ((m.st.length - 1 : Nat) : Int) := by rw [wrap_in _ (by omega) (by omega)]; omega
  have wl2 : IntKind.i64.wrap ((m.st.length : Int) - 2) = ((m.st.length - 2 : Nat) : Int) := by rw [wrap_in _ (by omega) (by omega)]; omega
  obtain ⟨st, es, q1, q2, q3, q4, q5, q6⟩ := a15.top2 (by omega)
  have hxl : m.st.dropLast.dropLast.length = m.st.length - 2 := by simp; omega
  generalize hxs : m.st.dropLast.dropLast = xs at *
  simp [rrun_l0, a1, a4, a5, c5, a10, c10, a11, a12, c12, a13, c13, a16, a17, cr, hp, hlt, hl2, hi, nf, ws, wt, e, q1, q2, q3, q4, q5, q6, wl, wl2, z8, show m.st.length - 1 < m.st.length by omega, show m.st.length - 1 ≤ m.st.length by omega, show m.st.length - 2 < m.st.length by omega, show m.st.length - 2 ≤ m.st.length by omega, show m.st.length - 2 ≤ es.length by omega, show (m.st.length - 2 + 1) * 8 ≤ 140737488355328 by omega, show (m.st.length - 1 + 1) * 8 ≤ 140737488355328 by omega, show (m.st.length - 2 + 2) * 8 ≤ 140737488355328 by omega, show m.st.length - 1 ≤ es.length by omega, show m.st.length ≤ es.length + 2 by omega, show m.st.length ≤ es.length + 1 by omega, show (xs.length + 2) * 8 ≤ 140737488355328 by omega, show (xs.length + 1) * 8 ≤ 140737488355328 by omega, show xs.length * 8 ≤ 140737488355328 by omega]
  refine calld (rtwo_pc 15 (top m.st.dropLast) (top m.st)) (by simp) ?_
  generalize hT : twoV 15 (top m.st.dropLast) (top m.st) = T at *
  by_cases hz : T.2 = 0
  · rw [hz] at k1 k2
    simp [rrun_l0, a1, a4, a5, c5, a10, c10, a11, a12, c12, a13, c13, a16, a17, cr, hp, hlt, hl2, hi, nf, ws, wt, e, q1, q2, q3, q4, q5, q6, wl, wl2, z8, hz, show m.st.length - 1 < m.st.length by omega, show m.st.length - 1 ≤ m.st.length by omega, show m.st.length - 2 < m.st.length by omega, show m.st.length - 2 ≤ m.st.length by omega, show m.st.length - 2 ≤ es.length by omega, show (m.st.length - 2 + 1) * 8 ≤ 140737488355328 by omega, show (m.st.length - 1 + 1) * 8 ≤ 140737488355328 by omega, show (m.st.length - 2 + 2) * 8 ≤ 140737488355328 by omega, show m.st.length - 1 ≤ es.length by omega, show m.st.length ≤ es.length + 2 by omega, show m.st.length ≤ es.length + 1 by omega, show (xs.length + 2) * 8 ≤ 140737488355328 by omega, show (xs.length + 1) * 8 ≤ 140737488355328 by omega, show xs.length * 8 ≤ 140737488355328 by omega]
    exact k1 rfl _ ⟨by simp [a1], by simp [a4], by simp [a5], by simp [c5], by simp [a10], by simp [c10], by simp [a11], ⟨sn, _, by simp [a12], by simp [c12], sr, rfl, by simp [cr]⟩, ⟨sf, s2, by simp [a13], by simp [c13]⟩, by simpa [AccIs] using a14, by simp [StkR, List.take_of_length_le], by simp [a16], by simp [atV_nn _ (show 0 ≤ m.pc + 1 by omega)]⟩
  · simp [rrun_l0, a1, a4, a5, c5, a10, c10, a11, a12, c12, a13, c13, a16, a17, cr, hp, hlt, hl2, hi, nf, ws, wt, e, q1, q2, q3, q4, q5, q6, wl, wl2, z8, hz, show m.st.length - 1 < m.st.length by omega, show m.st.length - 1 ≤ m.st.length by omega, show m.st.length - 2 < m.st.length by omega, show m.st.length - 2 ≤ m.st.length by omega, show m.st.length - 2 ≤ es.length by omega, show (m.st.length - 2 + 1) * 8 ≤ 140737488355328 by omega, show (m.st.length - 1 + 1) * 8 ≤ 140737488355328 by omega, show (m.st.length - 2 + 2) * 8 ≤ 140737488355328 by omega, show m.st.length - 1 ≤ es.length by omega, show m.st.length ≤ es.length + 2 by omega, show m.st.length ≤ es.length + 1 by omega, show (xs.length + 2) * 8 ≤ 140737488355328 by omega, show (xs.length + 1) * 8 ≤ 140737488355328 by omega, show xs.length * 8 ≤ 140737488355328 by omega]
    exact k2 hz _ s2 (by simp [a10]) (by simp [c10])
theorem rr16 {F : Fx} {p : Prg} {l : Lcl} {code : List Ins} {m : Mach} {s : Int} {i : Ins} {κ : Ex → St → Prop} {S : St} (hF : F.p = p) (h : RIs F p l code m s S) (hp : 0 ≤ m.pc) (hlt : m.pc.toNat < code.length) (hi : code[m.pc.toNat] = i) (hs : 0 ≤ s ∧ s < p.fuel ∧ s ≤ 1000) (ok : DoOk F i m) (e : i.op = 16) (hk : RPost F p l code m s i κ) : V Try.prog rrun_l0 κ S := by
  obtain ⟨a1, a4, a5, c5, a10, c10, a11, ⟨sn, r, a12, c12, sr, rfl, cr⟩, ⟨sf, s2, a13, c13⟩, a14, a15, a16, a17⟩ := h
  obtain ⟨⟨_, _⟩, tk, rg, ag, sd, ⟨w1, w2⟩, rl, nl, pc, sl⟩ := ok
  obtain ⟨k1, k2⟩ := hk
  rw [atV_nn _ hp] at a17
  have ws : IntKind.i64.wrap (m.pc + 1) = m.pc + 1 := wrap_in _ (by omega) (by omega)
  have wt : IntKind.i64.wrap (s + 1) = s + 1 := wrap_in _ (by omega) (by omega)
  have hl2 : m.pc < code.length := by omega
  have nf : ¬ (p.fuel ≤ s) := by omega
  have z8 : (m.st.length + 1) * 8 ≤ 140737488355328 := by omega
  simp [takesV, e, popsV] at tk
  have hd : doV F i m = ({ m with pc := m.pc + 1, st := m.st.dropLast.dropLast ++ [(twoV 16 (top m.st.dropLast) (top m.st)).1] }, (twoV 16 (top m.st.dropLast) (top m.st)).2) := by simp [doV, e, oneV]
  rw [hd] at k1 k2
  have wl : IntKind.i64.wrap ((m.st.length : Int) - 1) = ((m.st.length - 1 : Nat) : Int) := by rw [wrap_in _ (by omega) (by omega)]; omega
  have wl2 : IntKind.i64.wrap ((m.st.length : Int) - 2) = ((m.st.length - 2 : Nat) : Int) := by rw [wrap_in _ (by omega) (by omega)]; omega
  obtain ⟨st, es, q1, q2, q3, q4, q5, q6⟩ := a15.top2 (by omega)
  have hxl : m.st.dropLast.dropLast.length = m.st.length - 2 := by simp; omega
  generalize hxs : m.st.dropLast.dropLast = xs at *
  simp [rrun_l0, a1, a4, a5, c5, a10, c10, a11, a12, c12, a13, c13, a16, a17, cr, hp, hlt, hl2, hi, nf, ws, wt, e, q1, q2, q3, q4, q5, q6, wl, wl2, z8, show m.st.length - 1 < m.st.length by omega, show m.st.length - 1 ≤ m.st.length by omega, show m.st.length - 2 < m.st.length by omega, show m.st.length - 2 ≤ m.st.length by omega, show m.st.length - 2 ≤ es.length by omega, show (m.st.length - 2 + 1) * 8 ≤ 140737488355328 by omega, show (m.st.length - 1 + 1) * 8 ≤ 140737488355328 by omega, show (m.st.length - 2 + 2) * 8 ≤ 140737488355328 by omega, show m.st.length - 1 ≤ es.length by omega, show m.st.length ≤ es.length + 2 by omega, show m.st.length ≤ es.length + 1 by omega, show (xs.length + 2) * 8 ≤ 140737488355328 by omega, show (xs.length + 1) * 8 ≤ 140737488355328 by omega, show xs.length * 8 ≤ 140737488355328 by omega]
  refine calld (rtwo_pc 16 (top m.st.dropLast) (top m.st)) (by simp) ?_
  generalize hT : twoV 16 (top m.st.dropLast) (top m.st) = T at *
  by_cases hz : T.2 = 0
  · rw [hz] at k1 k2
    simp [rrun_l0, a1, a4, a5, c5, a10, c10, a11, a12, c12, a13, c13, a16, a17, cr, hp, hlt, hl2, hi, nf, ws, wt, e, q1, q2, q3, q4, q5, q6, wl, wl2, z8, hz, show m.st.length - 1 < m.st.length by omega, show m.st.length - 1 ≤ m.st.length by omega, show m.st.length - 2 < m.st.length by omega, show m.st.length - 2 ≤ m.st.length by omega, show m.st.length - 2 ≤ es.length by omega, show (m.st.length - 2 + 1) * 8 ≤ 140737488355328 by omega, show (m.st.length - 1 + 1) * 8 ≤ 140737488355328 by omega, show (m.st.length - 2 + 2) * 8 ≤ 140737488355328 by omega, show m.st.length - 1 ≤ es.length by omega, show m.st.length ≤ es.length + 2 by omega, show m.st.length ≤ es.length + 1 by omega, show (xs.length + 2) * 8 ≤ 140737488355328 by omega, show (xs.length + 1) * 8 ≤ 140737488355328 by omega, show xs.length * 8 ≤ 140737488355328 by omega]
    exact k1 rfl _ ⟨by simp [a1], by simp [a4], by simp [a5], by simp [c5], by simp [a10], by simp [c10], by simp [a11], ⟨sn, _, by simp [a12], by simp [c12], sr, rfl, by simp [cr]⟩, ⟨sf, s2, by simp [a13], by simp [c13]⟩, by simpa [AccIs] using a14, by simp [StkR, List.take_of_length_le], by simp [a16], by simp [atV_nn _ (show 0 ≤ m.pc + 1 by omega)]⟩
  · simp [rrun_l0, a1, a4, a5, c5, a10, c10, a11, a12, c12, a13, c13, a16, a17, cr, hp, hlt, hl2, hi, nf, ws, wt, e, q1, q2, q3, q4, q5, q6, wl, wl2, z8, hz, show m.st.length - 1 < m.st.length by omega, show m.st.length - 1 ≤ m.st.length by omega, show m.st.length - 2 < m.st.length by omega, show m.st.length - 2 ≤ m.st.length by omega, show m.st.length - 2 ≤ es.length by omega, show (m.st.length - 2 + 1) * 8 ≤ 140737488355328 by omega, show (m.st.length - 1 + 1) * 8 ≤ 140737488355328 by omega, show (m.st.length - 2 + 2) * 8 ≤ 140737488355328 by omega, show m.st.length - 1 ≤ es.length by omega, show m.st.length ≤ es.length + 2 by omega, show m.st.length ≤ es.length + 1 by omega, show (xs.length + 2) * 8 ≤ 140737488355328 by omega, show (xs.length + 1) * 8 ≤ 140737488355328 by omega, show xs.length * 8 ≤ 140737488355328 by omega]
    exact k2 hz _ s2 (by simp [a10]) (by simp [c10])
theorem rr17 {F : Fx} {p : Prg} {l : Lcl} {code : List Ins} {m : Mach} {s : Int} {i : Ins} {κ : Ex → St → Prop} {S : St} (hF : F.p = p) (h : RIs F p l code m s S) (hp : 0 ≤ m.pc) (hlt : m.pc.toNat < code.length) (hi : code[m.pc.toNat] = i) (hs : 0 ≤ s ∧ s < p.fuel ∧ s ≤ 1000) (ok : DoOk F i m) (e : i.op = 17) (hk : RPost F p l code m s i κ) : V Try.prog rrun_l0 κ S := by
  obtain ⟨a1, a4, a5, c5, a10, c10, a11, ⟨sn, r, a12, c12, sr, rfl, cr⟩, ⟨sf, s2, a13, c13⟩, a14, a15, a16, a17⟩ := h
  obtain ⟨⟨_, _⟩, tk, rg, ag, sd, ⟨w1, w2⟩, rl, nl, pc, sl⟩ := ok
  obtain ⟨k1, k2⟩ := hk
  rw [atV_nn _ hp] at a17
  have ws : IntKind.i64.wrap (m.pc + 1) = m.pc + 1 := wrap_in _ (by omega) (by omega)
  have wt : IntKind.i64.wrap (s + 1) = s + 1 := wrap_in _ (by omega) (by omega)
  have hl2 : m.pc < code.length := by omega
  have nf : ¬ (p.fuel ≤ s) := by omega
  have z8 : (m.st.length + 1) * 8 ≤ 140737488355328 := by omega
  simp [takesV, e, popsV] at tk
  have hd : doV F i m = ({ m with pc := m.pc + 1, st := m.st.dropLast.dropLast ++ [(twoV 17 (top m.st.dropLast) (top m.st)).1] }, (twoV 17 (top m.st.dropLast) (top m.st)).2) := by simp [doV, e, oneV]
  rw [hd] at k1 k2
  have wl : IntKind.i64.wrap ((m.st.length : Int) - 1) = ((m.st.length - 1 : Nat) : Int) := by rw [wrap_in _ (by omega) (by omega)]; omega
  have wl2 : IntKind.i64.wrap ((m.st.length : Int) - 2) = ((m.st.length - 2 : Nat) : Int) := by rw [wrap_in _ (by omega) (by omega)]; omega
  obtain ⟨st, es, q1, q2, q3, q4, q5, q6⟩ := a15.top2 (by omega)
  have hxl : m.st.dropLast.dropLast.length = m.st.length - 2 := by simp; omega
  generalize hxs : m.st.dropLast.dropLast = xs at *
  simp [rrun_l0, a1, a4, a5, c5, a10, c10, a11, a12, c12, a13, c13, a16, a17, cr, hp, hlt, hl2, hi, nf, ws, wt, e, q1, q2, q3, q4, q5, q6, wl, wl2, z8, show m.st.length - 1 < m.st.length by omega, show m.st.length - 1 ≤ m.st.length by omega, show m.st.length - 2 < m.st.length by omega, show m.st.length - 2 ≤ m.st.length by omega, show m.st.length - 2 ≤ es.length by omega, show (m.st.length - 2 + 1) * 8 ≤ 140737488355328 by omega, show (m.st.length - 1 + 1) * 8 ≤ 140737488355328 by omega, show (m.st.length - 2 + 2) * 8 ≤ 140737488355328 by omega, show m.st.length - 1 ≤ es.length by omega, show m.st.length ≤ es.length + 2 by omega, show m.st.length ≤ es.length + 1 by omega, show (xs.length + 2) * 8 ≤ 140737488355328 by omega, show (xs.length + 1) * 8 ≤ 140737488355328 by omega, show xs.length * 8 ≤ 140737488355328 by omega]
  refine calld (rtwo_pc 17 (top m.st.dropLast) (top m.st)) (by simp) ?_
  generalize hT : twoV 17 (top m.st.dropLast) (top m.st) = T at *
  by_cases hz : T.2 = 0
  · rw [hz] at k1 k2
    simp [rrun_l0, a1, a4, a5, c5, a10, c10, a11, a12, c12, a13, c13, a16, a17, cr, hp, hlt, hl2, hi, nf, ws, wt, e, q1, q2, q3, q4, q5, q6, wl, wl2, z8, hz, show m.st.length - 1 < m.st.length by omega, show m.st.length - 1 ≤ m.st.length by omega, show m.st.length - 2 < m.st.length by omega, show m.st.length - 2 ≤ m.st.length by omega, show m.st.length - 2 ≤ es.length by omega, show (m.st.length - 2 + 1) * 8 ≤ 140737488355328 by omega, show (m.st.length - 1 + 1) * 8 ≤ 140737488355328 by omega, show (m.st.length - 2 + 2) * 8 ≤ 140737488355328 by omega, show m.st.length - 1 ≤ es.length by omega, show m.st.length ≤ es.length + 2 by omega, show m.st.length ≤ es.length + 1 by omega, show (xs.length + 2) * 8 ≤ 140737488355328 by omega, show (xs.length + 1) * 8 ≤ 140737488355328 by omega, show xs.length * 8 ≤ 140737488355328 by omega]
    exact k1 rfl _ ⟨by simp [a1], by simp [a4], by simp [a5], by simp [c5], by simp [a10], by simp [c10], by simp [a11], ⟨sn, _, by simp [a12], by simp [c12], sr, rfl, by simp [cr]⟩, ⟨sf, s2, by simp [a13], by simp [c13]⟩, by simpa [AccIs] using a14, by simp [StkR, List.take_of_length_le], by simp [a16], by simp [atV_nn _ (show 0 ≤ m.pc + 1 by omega)]⟩
  · simp [rrun_l0, a1, a4, a5, c5, a10, c10, a11, a12, c12, a13, c13, a16, a17, cr, hp, hlt, hl2, hi, nf, ws, wt, e, q1, q2, q3, q4, q5, q6, wl, wl2, z8, hz, show m.st.length - 1 < m.st.length by omega, show m.st.length - 1 ≤ m.st.length by omega, show m.st.length - 2 < m.st.length by omega, show m.st.length - 2 ≤ m.st.length by omega, show m.st.length - 2 ≤ es.length by omega, show (m.st.length - 2 + 1) * 8 ≤ 140737488355328 by omega, show (m.st.length - 1 + 1) * 8 ≤ 140737488355328 by omega, show (m.st.length - 2 + 2) * 8 ≤ 140737488355328 by omega, show m.st.length - 1 ≤ es.length by omega, show m.st.length ≤ es.length + 2 by omega, show m.st.length ≤ es.length + 1 by omega, show (xs.length + 2) * 8 ≤ 140737488355328 by omega, show (xs.length + 1) * 8 ≤ 140737488355328 by omega, show xs.length * 8 ≤ 140737488355328 by omega]
    exact k2 hz _ s2 (by simp [a10]) (by simp [c10])
theorem rr18 {F : Fx} {p : Prg} {l : Lcl} {code : List Ins} {m : Mach} {s : Int} {i : Ins} {κ : Ex → St → Prop} {S : St} (hF : F.p = p) (h : RIs F p l code m s S) (hp : 0 ≤ m.pc) (hlt : m.pc.toNat < code.length) (hi : code[m.pc.toNat] = i) (hs : 0 ≤ s ∧ s < p.fuel ∧ s ≤ 1000) (ok : DoOk F i m) (e : i.op = 18) (hk : RPost F p l code m s i κ) : V Try.prog rrun_l0 κ S := by
  obtain ⟨a1, a4, a5, c5, a10, c10, a11, ⟨sn, r, a12, c12, sr, rfl, cr⟩, ⟨sf, s2, a13, c13⟩, a14, a15, a16, a17⟩ := h
  obtain ⟨⟨_, _⟩, tk, rg, ag, sd, ⟨w1, w2⟩, rl, nl, pc, sl⟩ := ok
  obtain ⟨k1, k2⟩ := hk
  rw [atV_nn _ hp] at a17
  have ws : IntKind.i64.wrap (m.pc + 1) = m.pc + 1 := wrap_in _ (by omega) (by omega)
  have wt : IntKind.i64.wrap (s + 1) = s + 1 := wrap_in _ (by omega) (by omega)
  have hl2 : m.pc < code.length := by omega
  have nf : ¬ (p.fuel ≤ s) := by omega
  have z8 : (m.st.length + 1) * 8 ≤ 140737488355328 := by omega
  simp [takesV, e, popsV] at tk
  have hd : doV F i m = ({ m with pc := m.pc + 1, st := m.st.dropLast.dropLast ++ [(twoV 18 (top m.st.dropLast) (top m.st)).1] }, (twoV 18 (top m.st.dropLast) (top m.st)).2) := by simp [doV, e, oneV]
  rw [hd] at k1 k2
  have wl : IntKind.i64.wrap ((m.st.length : Int) - 1) = ((m.st.length - 1 : Nat) : Int) := by rw [wrap_in _ (by omega) (by omega)]; omega
  have wl2 : IntKind.i64.wrap ((m.st.length : Int) - 2) = ((m.st.length - 2 : Nat) : Int) := by rw [wrap_in _ (by omega) (by omega)]; omega
  obtain ⟨st, es, q1, q2, q3, q4, q5, q6⟩ := a15.top2 (by omega)
  have hxl : m.st.dropLast.dropLast.length = m.st.length - 2 := by simp; omega
  generalize hxs : m.st.dropLast.dropLast = xs at *
  simp [rrun_l0, a1, a4, a5, c5, a10, c10, a11, a12, c12, a13, c13, a16, a17, cr, hp, hlt, hl2, hi, nf, ws, wt, e, q1, q2, q3, q4, q5, q6, wl, wl2, z8, show m.st.length - 1 < m.st.length by omega, show m.st.length - 1 ≤ m.st.length by omega, show m.st.length - 2 < m.st.length by omega, show m.st.length - 2 ≤ m.st.length by omega, show m.st.length - 2 ≤ es.length by omega, show (m.st.length - 2 + 1) * 8 ≤ 140737488355328 by omega, show (m.st.length - 1 + 1) * 8 ≤ 140737488355328 by omega, show (m.st.length - 2 + 2) * 8 ≤ 140737488355328 by omega, show m.st.length - 1 ≤ es.length by omega, show m.st.length ≤ es.length + 2 by omega, show m.st.length ≤ es.length + 1 by omega, show (xs.length + 2) * 8 ≤ 140737488355328 by omega, show (xs.length + 1) * 8 ≤ 140737488355328 by omega, show xs.length * 8 ≤ 140737488355328 by omega]
  refine calld (rtwo_pc 18 (top m.st.dropLast) (top m.st)) (by simp) ?_
  generalize hT : twoV 18 (top m.st.dropLast) (top m.st) = T at *
  by_cases hz : T.2 = 0
  · rw [hz] at k1 k2
    simp [rrun_l0, a1, a4, a5, c5, a10, c10, a11, a12, c12, a13, c13, a16, a17, cr, hp, hlt, hl2, hi, nf, ws, wt, e, q1, q2, q3, q4, q5, q6, wl, wl2, z8, hz, show m.st.length - 1 < m.st.length by omega, show m.st.length - 1 ≤ m.st.length by omega, show m.st.length - 2 < m.st.length by omega, show m.st.length - 2 ≤ m.st.length by omega, show m.st.length - 2 ≤ es.length by omega, show (m.st.length - 2 + 1) * 8 ≤ 140737488355328 by omega, show (m.st.length - 1 + 1) * 8 ≤ 140737488355328 by omega, show (m.st.length - 2 + 2) * 8 ≤ 140737488355328 by omega, show m.st.length - 1 ≤ es.length by omega, show m.st.length ≤ es.length + 2 by omega, show m.st.length ≤ es.length + 1 by omega, show (xs.length + 2) * 8 ≤ 140737488355328 by omega, show (xs.length + 1) * 8 ≤ 140737488355328 by omega, show xs.length * 8 ≤ 140737488355328 by omega]
    exact k1 rfl _ ⟨by simp [a1], by simp [a4], by simp [a5], by simp [c5], by simp [a10], by simp [c10], by simp [a11], ⟨sn, _, by simp [a12], by simp [c12], sr, rfl, by simp [cr]⟩, ⟨sf, s2, by simp [a13], by simp [c13]⟩, by simpa [AccIs] using a14, by simp [StkR, List.take_of_length_le], by simp [a16], by simp [atV_nn _ (show 0 ≤ m.pc + 1 by omega)]⟩
  · simp [rrun_l0, a1, a4, a5, c5, a10, c10, a11, a12, c12, a13, c13, a16, a17, cr, hp, hlt, hl2, hi, nf, ws, wt, e, q1, q2, q3, q4, q5, q6, wl, wl2, z8, hz, show m.st.length - 1 < m.st.length by omega, show m.st.length - 1 ≤ m.st.length by omega, show m.st.length - 2 < m.st.length by omega, show m.st.length - 2 ≤ m.st.length by omega, show m.st.length - 2 ≤ es.length by omega, show (m.st.length - 2 + 1) * 8 ≤ 140737488355328 by omega, show (m.st.length - 1 + 1) * 8 ≤ 140737488355328 by omega, show (m.st.length - 2 + 2) * 8 ≤ 140737488355328 by omega, show m.st.length - 1 ≤ es.length by omega, show m.st.length ≤ es.length + 2 by omega, show m.st.length ≤ es.length + 1 by omega, show (xs.length + 2) * 8 ≤ 140737488355328 by omega, show (xs.length + 1) * 8 ≤ 140737488355328 by omega, show xs.length * 8 ≤ 140737488355328 by omega]
    exact k2 hz _ s2 (by simp [a10]) (by simp [c10])

end Go.Gv
