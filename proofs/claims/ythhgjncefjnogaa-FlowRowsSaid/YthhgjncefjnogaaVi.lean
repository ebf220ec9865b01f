/- What the rows' readings of a program and of a note say. No condition. -/
import Derived.Test.YthhgjncefjnogaaProg
import Derived.Test.YthhgjncefjnogaaVa
import Derived.Test.YthhgjncefjnogaaGv22
set_option linter.unusedVariables false
set_option linter.unusedSimpArgs false
namespace Go.Gv
open Go.Proofs

theorem len2 {α : Type} {l : List α} (h : l.length = 2) : ∃ a b, l = [a, b] := by
  match l, h with
  | [a, b], _ => exact ⟨a, b, rfl⟩
theorem len3 {α : Type} {l : List α} (h : l.length = 3) : ∃ a b c, l = [a, b, c] := by
  match l, h with
  | [a, b, c], _ => exact ⟨a, b, c, rfl⟩
theorem len4 {α : Type} {l : List α} (h : l.length = 4) : ∃ a b c d, l = [a, b, c, d] := by
  match l, h with
  | [a, b, c, d], _ => exact ⟨a, b, c, d, rfl⟩
theorem len5 {α : Type} {l : List α} (h : l.length = 5) : ∃ a b c d e, l = [a, b, c, d, e] := by
  match l, h with
  | [a, b, c, d, e], _ => exact ⟨a, b, c, d, e, rfl⟩
section
variable {H : Type} {enc : TypeId × Value → H} {P : Program} {w : World}
theorem open1 {ty : TypeId} {A : Type} {f : A → AV} {Pr : A → Prop} (ho : Opens enc P w ty A f Pr) (h1 : ∀ a, (f a).cells = [f a]) {n i : Nat} {c : Value} {xs : List (DataW H × List MemPlace)}
    (h : DataW.trod enc P w 0 (fun _ => true) true n ty [c] = xs[i]?) (hi : i < xs.length) : ∃ a, Pr a ∧ Rel (envK (Kw w)) (f a) c := by
  rw [List.getElem?_eq_getElem hi] at h
  obtain ⟨a, p1, p2, p3, p4⟩ := ho _ _ _ h
  exact ⟨a, p1, p4 0 (f a) c (by rw [h1]; rfl) rfl⟩
inductive RelL (E : Env) : List AV → List Value → Prop where
  | nil : RelL E [] []
  | cons {x : AV} {v : Value} {xs : List AV} {vs : List Value} : Rel E x v → RelL E xs vs → RelL E (x :: xs) (v :: vs)
theorem cells_rel {E : Env} {xs : List AV} {cs : List Value} (h : RelL E xs cs) : cs.length = xs.length ∧ ∀ (j : Nat) (y : AV) (u : Value), xs[j]? = some y → cs[j]? = some u → Rel E y u := by
  induction h with
  | nil => exact ⟨rfl, by simp⟩
  | cons a b ih =>
    refine ⟨by simp [ih.1], ?_⟩
    intro j y u hy hu
    cases j with
    | zero => simp at hy hu; subst hy; subst hu; exact a
    | succ j => exact ih.2 j y u (by simpa using hy) (by simpa using hu)
end
def Ins.R (i : Ins) : Prop := InR i.op ∧ InR i.a
def Hnd.R (h : Hnd) : Prop := InR h.args ∧ h.code.length ≤ maxLen ∧ ∀ i ∈ h.code, i.R
def Actr.R (a : Actr) : Prop := (a.regs.length ≤ maxLen ∧ ∀ x ∈ a.regs, InR x) ∧ InR a.cap ∧ InR a.timer
def Nt.R (n : Nt) : Prop := InR n.to ∧ InR n.hd ∧ n.args.length ≤ maxLen ∧ ∀ x ∈ n.args, InR x
def Prg.R (p : Prg) : Prop := (p.hs.length ≤ maxLen ∧ ∀ h ∈ p.hs, h.R) ∧ (p.as.length ≤ maxLen ∧ ∀ h ∈ p.as, h.R) ∧ (p.boot.length ≤ maxLen ∧ ∀ h ∈ p.boot, h.R) ∧ InR p.fuel
section
variable {H : Type} {enc : TypeId × Value → H} {w : World}
theorem c_int : Try.prog.cellsOf 3 = 1 := by kernel_rfl
theorem c_bool : Try.prog.cellsOf 4 = 1 := by kernel_rfl
theorem c_instr : Try.prog.cellsOf 35 = 2 := by kernel_rfl
theorem c_instrs : Try.prog.cellsOf 31 = 1 := by kernel_rfl
theorem c_ints : Try.prog.cellsOf 36 = 1 := by kernel_rfl
theorem c_handler : Try.prog.cellsOf 33 = 2 := by kernel_rfl
theorem c_actor : Try.prog.cellsOf 38 = 4 := by kernel_rfl
theorem c_note : Try.prog.cellsOf 40 = 3 := by kernel_rfl
theorem c_handlers : Try.prog.cellsOf 22 = 1 := by kernel_rfl
theorem c_actors : Try.prog.cellsOf 23 = 1 := by kernel_rfl
theorem c_notes : Try.prog.cellsOf 24 = 1 := by kernel_rfl
theorem c_program : Try.prog.cellsOf 26 = 4 := by kernel_rfl
theorem o_int : Opens enc Try.prog w 3 Int iv InR := opens_int Try.underlying3
theorem o_bool : Opens enc Try.prog w 4 Bool AV.bool (fun _ => True) := opens_bool Try.underlying4
theorem o_ints : Opens enc Try.prog w 36 (List Int) ints (fun l => l.length ≤ maxLen ∧ ∀ x ∈ l, InR x) := opens_slice Try.underlying36 1 c_int (by decide) o_int (fun _ => rfl)
theorem o_bools : Opens enc Try.prog w 57 (List Bool) (fun l => .lst 1 (l.map AV.bool)) (fun l => l.length ≤ maxLen ∧ ∀ x ∈ l, True) := opens_slice Try.underlying57 1 c_bool (by decide) o_bool (fun _ => rfl)
theorem o_instr : Opens enc Try.prog w 35 Ins Ins.av Ins.R := by
  intro fuel cs x h
  obtain ⟨xs, n, rfl, rfl, hl, hx, hf⟩ := DataW.trod_struct Try.underlying35 h
  rw [c_instr] at hl
  obtain ⟨v0, v1, rfl⟩ := len2 hl
  have h0 := hf 0 _ rfl
  have h1 := hf 1 _ rfl
  simp [c_int] at h0 h1
  simp at hx
  obtain ⟨a0, p0, r0⟩ := open1 o_int (fun _ => rfl) h0 (by omega)
  obtain ⟨a1, p1, r1⟩ := open1 o_int (fun _ => rfl) h1 (by omega)
  obtain ⟨q1, q2⟩ := cells_rel (.cons r0 (.cons r1 .nil))
  exact ⟨⟨a0, a1⟩, ⟨p0, p1⟩, q1, by simp, q2⟩
theorem o_instrs : Opens enc Try.prog w 31 (List Ins) (fun l => .lst 2 (l.map Ins.av)) (fun l => l.length ≤ maxLen ∧ ∀ x ∈ l, x.R) := opens_slice Try.underlying31 2 c_instr (by decide) o_instr (fun _ => rfl)
theorem o_handler : Opens enc Try.prog w 33 Hnd Hnd.av Hnd.R := by
  intro fuel cs x h
  obtain ⟨xs, n, rfl, rfl, hl, hx, hf⟩ := DataW.trod_struct Try.underlying33 h
  rw [c_handler] at hl
  obtain ⟨v0, v1, rfl⟩ := len2 hl
  have h0 := hf 0 _ rfl
  have h1 := hf 1 _ rfl
  simp [c_int, c_instrs] at h0 h1
  simp at hx
  obtain ⟨a0, p0, r0⟩ := open1 o_int (fun _ => rfl) h0 (by omega)
  obtain ⟨a1, p1, r1⟩ := open1 o_instrs (fun _ => rfl) h1 (by omega)
  obtain ⟨q1, q2⟩ := cells_rel (.cons r0 (.cons r1 .nil))
  exact ⟨⟨a0, a1⟩, ⟨p0, p1⟩, q1, by simp, q2⟩
theorem o_actor : Opens enc Try.prog w 38 Actr Actr.av Actr.R := by
  intro fuel cs x h
  obtain ⟨xs, n, rfl, rfl, hl, hx, hf⟩ := DataW.trod_struct Try.underlying38 h
  rw [c_actor] at hl
  obtain ⟨v0, v1, v2, v3, rfl⟩ := len4 hl
  have h0 := hf 0 _ rfl
  have h1 := hf 1 _ rfl
  have h2 := hf 2 _ rfl
  have h3 := hf 3 _ rfl
  simp [c_int, c_bool, c_ints] at h0 h1 h2 h3
  simp at hx
  obtain ⟨a0, p0, r0⟩ := open1 o_ints (fun _ => rfl) h0 (by omega)
  obtain ⟨a1, p1, r1⟩ := open1 o_int (fun _ => rfl) h1 (by omega)
  obtain ⟨a2, p2, r2⟩ := open1 o_int (fun _ => rfl) h2 (by omega)
  obtain ⟨a3, p3, r3⟩ := open1 o_bool (fun _ => rfl) h3 (by omega)
  obtain ⟨q1, q2⟩ := cells_rel (.cons r0 (.cons r1 (.cons r2 (.cons r3 .nil))))
  exact ⟨⟨a0, a1, a2, a3⟩, ⟨p0, p1, p2⟩, q1, by simp, q2⟩
theorem o_note : Opens enc Try.prog w 40 Nt Nt.av Nt.R := by
  intro fuel cs x h
  obtain ⟨xs, n, rfl, rfl, hl, hx, hf⟩ := DataW.trod_struct Try.underlying40 h
  rw [c_note] at hl
  obtain ⟨v0, v1, v2, rfl⟩ := len3 hl
  have h0 := hf 0 _ rfl
  have h1 := hf 1 _ rfl
  have h2 := hf 2 _ rfl
  simp [c_int, c_bool, c_ints] at h0 h1 h2
  simp at hx
  obtain ⟨a0, p0, r0⟩ := open1 o_int (fun _ => rfl) h0 (by omega)
  obtain ⟨a1, p1, r1⟩ := open1 o_int (fun _ => rfl) h1 (by omega)
  obtain ⟨a2, p2, r2⟩ := open1 o_ints (fun _ => rfl) h2 (by omega)
  obtain ⟨q1, q2⟩ := cells_rel (.cons r0 (.cons r1 (.cons r2 .nil)))
  exact ⟨⟨a0, a1, a2⟩, ⟨p0, p1, p2⟩, q1, by simp, q2⟩
theorem o_handlers : Opens enc Try.prog w 22 (List Hnd) (fun l => .lst 2 (l.map Hnd.av)) (fun l => l.length ≤ maxLen ∧ ∀ x ∈ l, x.R) := opens_slice Try.underlying22 2 c_handler (by decide) o_handler (fun _ => rfl)
theorem o_actors : Opens enc Try.prog w 23 (List Actr) (fun l => .lst 4 (l.map Actr.av)) (fun l => l.length ≤ maxLen ∧ ∀ x ∈ l, x.R) := opens_slice Try.underlying23 4 c_actor (by decide) o_actor (fun _ => rfl)
theorem o_notes : Opens enc Try.prog w 24 (List Nt) (fun l => .lst 3 (l.map Nt.av)) (fun l => l.length ≤ maxLen ∧ ∀ x ∈ l, x.R) := opens_slice Try.underlying24 3 c_note (by decide) o_note (fun _ => rfl)
theorem o_program : Opens enc Try.prog w 26 Prg Prg.av Prg.R := by
  intro fuel cs x h
  obtain ⟨xs, n, rfl, rfl, hl, hx, hf⟩ := DataW.trod_struct Try.underlying26 h
  rw [c_program] at hl
  obtain ⟨v0, v1, v2, v3, rfl⟩ := len4 hl
  have h0 := hf 0 _ rfl
  have h1 := hf 1 _ rfl
  have h2 := hf 2 _ rfl
  have h3 := hf 3 _ rfl
  simp [c_int, c_bool, c_handlers, c_actors, c_notes] at h0 h1 h2 h3
  simp at hx
  obtain ⟨a0, p0, r0⟩ := open1 o_handlers (fun _ => rfl) h0 (by omega)
  obtain ⟨a1, p1, r1⟩ := open1 o_actors (fun _ => rfl) h1 (by omega)
  obtain ⟨a2, p2, r2⟩ := open1 o_notes (fun _ => rfl) h2 (by omega)
  obtain ⟨a3, p3, r3⟩ := open1 o_int (fun _ => rfl) h3 (by omega)
  obtain ⟨q1, q2⟩ := cells_rel (.cons r0 (.cons r1 (.cons r2 (.cons r3 .nil))))
  exact ⟨⟨a0, a1, a2, a3⟩, ⟨p0, p1, p2, p3⟩, q1, by simp, q2⟩
end

/-- A struct's value. -/
theorem agg_of_cells {K : Nat → Nat → Option Value} {cs : List AV} {v : Value} (h2 : 2 ≤ cs.length) (hl : v.cells.toList.length = cs.length) (h1 : ∀ y ∈ cs, y.one = true)
    (hr : ∀ (j : Nat) (y : AV) (u : Value), cs[j]? = some y → v.cells.toList[j]? = some u → Rel (envK K) y u) : Rel (envK K) (.agg cs) v := by
  have : ∃ vs, v = .agg vs := by
    cases v <;> first | exact ⟨_, rfl⟩ | (simp [Value.cells] at hl; omega)
  obtain ⟨vs, rfl⟩ := this
  refine .agg cs vs (by simpa [Value.cells] using hl.symm) (fun j y hy => h1 y (List.mem_of_getElem? hy)) (fun j y u hy hu => hr j y u hy (by simpa [Value.cells] using hu))
theorem open_prg {H : Type} {enc : TypeId × Value → H} {w : World} {v : Value} {d : DataW H} {ps : List MemPlace} (h : DataW.Trod enc Try.prog w 0 (fun _ => true) true 26 v d ps) : ∃ p : Prg, p.R ∧ Rel (envK (Kw w)) p.av v := by
  obtain ⟨fuel, h⟩ := h
  obtain ⟨p, p1, p2, p3, p4⟩ := o_program _ _ _ h
  exact ⟨p, p1, agg_of_cells (by simp) p2 p3 p4⟩
theorem open_note {H : Type} {enc : TypeId × Value → H} {w : World} {v : Value} {d : DataW H} {ps : List MemPlace} (h : DataW.Trod enc Try.prog w 0 (fun _ => true) true 40 v d ps) : ∃ p : Nt, p.R ∧ Rel (envK (Kw w)) p.av v := by
  obtain ⟨fuel, h⟩ := h
  obtain ⟨p, p1, p2, p3, p4⟩ := o_note _ _ _ h
  exact ⟨p, p1, agg_of_cells (by simp) p2 p3 p4⟩

theorem one_cell {E : Env} {v : Value} {a : AV} {x y z} (hv : v = .slice x y z) (hc : a.cells = [a]) (h : ∀ (j : Nat) (y : AV) (u : Value), a.cells[j]? = some y → v.cells.toList[j]? = some u → Rel E y u) : Rel E a v := by
  subst hv
  exact h 0 a _ (by rw [hc]; rfl) rfl
theorem open_ints {H : Type} {enc : TypeId × Value → H} {w : World} {v : Value} {d : DataW H} {ps : List MemPlace} (hv : ∃ x y z, v = .slice x y z) (h : DataW.Trod enc Try.prog w 0 (fun _ => true) true 36 v d ps) : ∃ l : List Int, (l.length ≤ maxLen ∧ ∀ x ∈ l, InR x) ∧ Rel (envK (Kw w)) (ints l) v := by
  obtain ⟨fuel, h⟩ := h
  obtain ⟨x, y, z, hv⟩ := hv
  obtain ⟨p, p1, p2, p3, p4⟩ := o_ints _ _ _ h
  exact ⟨p, p1, one_cell hv rfl p4⟩
theorem open_bools {H : Type} {enc : TypeId × Value → H} {w : World} {v : Value} {d : DataW H} {ps : List MemPlace} (hv : ∃ x y z, v = .slice x y z) (h : DataW.Trod enc Try.prog w 0 (fun _ => true) true 57 v d ps) : ∃ l : List Bool, (l.length ≤ maxLen ∧ ∀ x ∈ l, True) ∧ Rel (envK (Kw w)) (.lst 1 (l.map AV.bool)) v := by
  obtain ⟨fuel, h⟩ := h
  obtain ⟨x, y, z, hv⟩ := hv
  obtain ⟨p, p1, p2, p3, p4⟩ := o_bools _ _ _ h
  exact ⟨p, p1, one_cell hv rfl p4⟩
/-- An actor's own part between two deliveries. -/
structure Lcl where
  regs : List Int
  armed : Bool
  down : Int
  sent : Int
  over : Int
def Lcl.av (l : Lcl) : AV := .agg [ints l.regs, .bool l.armed, iv l.down, iv l.sent, iv l.over]
@[simp] theorem Lcl.cells_av (l : Lcl) : l.av.cells = [ints l.regs, .bool l.armed, iv l.down, iv l.sent, iv l.over] := rfl
def Lcl.R (l : Lcl) : Prop := (l.regs.length ≤ maxLen ∧ ∀ x ∈ l.regs, InR x) ∧ InR l.down ∧ InR l.sent ∧ InR l.over
theorem c_local : Try.prog.cellsOf 64 = 5 := by kernel_rfl
theorem o_local {H : Type} {enc : TypeId × Value → H} {w : World} : Opens enc Try.prog w 64 Lcl Lcl.av Lcl.R := by
  intro fuel cs x h
  obtain ⟨xs, n, rfl, rfl, hl, hx, hf⟩ := DataW.trod_struct Try.underlying64 h
  rw [c_local] at hl
  obtain ⟨v0, v1, v2, v3, v4, rfl⟩ := len5 hl
  have h0 := hf 0 _ rfl
  have h1 := hf 1 _ rfl
  have h2 := hf 2 _ rfl
  have h3 := hf 3 _ rfl
  have h4 := hf 4 _ rfl
  simp [c_int, c_bool, c_ints] at h0 h1 h2 h3 h4
  simp at hx
  obtain ⟨a0, p0, r0⟩ := open1 o_ints (fun _ => rfl) h0 (by omega)
  obtain ⟨a1, p1, r1⟩ := open1 o_bool (fun _ => rfl) h1 (by omega)
  obtain ⟨a2, p2, r2⟩ := open1 o_int (fun _ => rfl) h2 (by omega)
  obtain ⟨a3, p3, r3⟩ := open1 o_int (fun _ => rfl) h3 (by omega)
  obtain ⟨a4, p4, r4⟩ := open1 o_int (fun _ => rfl) h4 (by omega)
  obtain ⟨q1, q2⟩ := cells_rel (.cons r0 (.cons r1 (.cons r2 (.cons r3 (.cons r4 .nil)))))
  exact ⟨⟨a0, a1, a2, a3, a4⟩, ⟨p0, p2, p3, p4⟩, q1, by simp, q2⟩
theorem open_local {H : Type} {enc : TypeId × Value → H} {w : World} {v : Value} {d : DataW H} {ps : List MemPlace} (h : DataW.Trod enc Try.prog w 0 (fun _ => true) true 64 v d ps) : ∃ p : Lcl, p.R ∧ Rel (envK (Kw w)) p.av v := by
  obtain ⟨fuel, h⟩ := h
  obtain ⟨p, p1, p2, p3, p4⟩ := o_local _ _ _ h
  exact ⟨p, p1, agg_of_cells (by simp) p2 p3 p4⟩

end Go.Gv
