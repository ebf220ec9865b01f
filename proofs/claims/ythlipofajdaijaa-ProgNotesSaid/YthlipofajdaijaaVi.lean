/- What the rows' readings of a program and of a note say. No condition. -/
import Derived.Test.YthlipofajdaijaaProg
import Derived.Test.YthlipofajdaijaaVh
import Derived.Test.YthlipofajdaijaaGv22
set_option linter.unusedVariables false
set_option linter.unusedSimpArgs false
namespace Go.Gv
open Go.Proofs

section
variable {H : Type} {enc : TypeId × Value → H} {P : Program} {w : World}
theorem open1 {ty : TypeId} {A : Type} {f : A → AV} {Pr : A → Prop} (ho : Opens enc P w ty A f Pr) (h1 : ∀ a, (f a).cells = [f a]) {n i : Nat} {c : Value} {xs : List (DataW H × List MemPlace)}
    (h : DataW.trod enc P w 0 (fun _ => true) true n ty [c] = xs[i]?) (hi : i < xs.length) : ∃ a, Pr a ∧ Rel (envK (Kw w)) (f a) c := by
  rw [List.getElem?_eq_getElem hi] at h
  obtain ⟨a, p1, p2, p3, p4⟩ := ho _ _ _ h
  exact ⟨a, p1, p4 0 (f a) c (by rw [h1]; rfl) rfl⟩
inductive RelL (E : Env) : List AV → List Value → Prop where
  | nil : RelL E [] []
  | cons {x : AV} {v : Value} {xs : List AV} {vs : List Value} : Rel E x v → RelL E xs vs → RelL E (x :: xs) (v :: vs)
theorem cells_rel {E : Env} {xs : List AV} {cs : List Value} (h : RelL E xs cs) : cs.length = xs.length ∧ ∀ (j : Nat) (y : AV) (u : Value), xs[j]? = some y → cs[j]? = some u → Rel E y u := by
  induction h with
  | nil => exact ⟨rfl, by simp⟩
  | cons a b ih =>
    refine ⟨by simp [ih.1], ?_⟩
    intro j y u hy hu
    cases j with
    | zero => simp at hy hu; subst hy; subst hu; exact a
    | succ j => exact ih.2 j y u (by simpa using hy) (by simpa using hu)
end
def Ins.R (i : Ins) : Prop := InR i.op ∧ InR i.a
def Hnd.R (h : Hnd) : Prop := InR h.args ∧ h.code.length ≤ maxLen ∧ ∀ i ∈ h.code, i.R
def Actr.R (a : Actr) : Prop := (a.regs.length ≤ maxLen ∧ ∀ x ∈ a.regs, InR x) ∧ InR a.cap ∧ InR a.timer
def Nt.R (n : Nt) : Prop := InR n.to ∧ InR n.hd ∧ n.args.length ≤ maxLen ∧ ∀ x ∈ n.args, InR x
def Prg.R (p : Prg) : Prop := (p.hs.length ≤ maxLen ∧ ∀ h ∈ p.hs, h.R) ∧ (p.as.length ≤ maxLen ∧ ∀ h ∈ p.as, h.R) ∧ (p.boot.length ≤ maxLen ∧ ∀ h ∈ p.boot, h.R) ∧ InR p.fuel
section
variable {H : Type} {enc : TypeId × Value → H} {w : World}
theorem c3 : Try.prog.cellsOf 3 = 1 := by kernel_rfl
theorem c4 : Try.prog.cellsOf 4 = 1 := by kernel_rfl
theorem c45 : Try.prog.cellsOf 45 = 2 := by kernel_rfl
theorem c36 : Try.prog.cellsOf 36 = 1 := by kernel_rfl
theorem c46 : Try.prog.cellsOf 46 = 1 := by kernel_rfl
theorem c38 : Try.prog.cellsOf 38 = 2 := by kernel_rfl
theorem c48 : Try.prog.cellsOf 48 = 4 := by kernel_rfl
theorem c50 : Try.prog.cellsOf 50 = 3 := by kernel_rfl
theorem c30 : Try.prog.cellsOf 30 = 1 := by kernel_rfl
theorem c31 : Try.prog.cellsOf 31 = 1 := by kernel_rfl
theorem c32 : Try.prog.cellsOf 32 = 1 := by kernel_rfl
theorem c34 : Try.prog.cellsOf 34 = 4 := by kernel_rfl
theorem o3 : Opens enc Try.prog w 3 Int iv InR := opens_int Try.underlying3
theorem o4 : Opens enc Try.prog w 4 Bool AV.bool (fun _ => True) := opens_bool Try.underlying4
theorem o46 : Opens enc Try.prog w 46 (List Int) ints (fun l => l.length ≤ maxLen ∧ ∀ x ∈ l, InR x) := opens_slice Try.underlying46 1 c3 (by decide) o3 (fun _ => rfl)
theorem o45 : Opens enc Try.prog w 45 Ins Ins.av Ins.R := by
  intro fuel cs x h
  obtain ⟨xs, n, rfl, rfl, hl, hx, hf⟩ := DataW.trod_struct Try.underlying45 h
  rw [c45] at hl
  obtain ⟨v0, v1, rfl⟩ : ∃ a b, cs = [a, b] := by
    match cs, hl with
    | [a, b], _ => exact ⟨a, b, rfl⟩
  have h0 := hf 0 _ rfl
  have h1 := hf 1 _ rfl
  simp [c3] at h0 h1
  simp at hx
  obtain ⟨a0, p0, r0⟩ := open1 o3 (fun _ => rfl) h0 (by omega)
  obtain ⟨a1, p1, r1⟩ := open1 o3 (fun _ => rfl) h1 (by omega)
  obtain ⟨q1, q2⟩ := cells_rel (.cons r0 (.cons r1 .nil))
  exact ⟨⟨a0, a1⟩, ⟨p0, p1⟩, q1, by simp, q2⟩
theorem o36 : Opens enc Try.prog w 36 (List Ins) (fun l => .lst 2 (l.map Ins.av)) (fun l => l.length ≤ maxLen ∧ ∀ x ∈ l, x.R) := opens_slice Try.underlying36 2 c45 (by decide) o45 (fun _ => rfl)
theorem o38 : Opens enc Try.prog w 38 Hnd Hnd.av Hnd.R := by
  intro fuel cs x h
  obtain ⟨xs, n, rfl, rfl, hl, hx, hf⟩ := DataW.trod_struct Try.underlying38 h
  rw [c38] at hl
  obtain ⟨v0, v1, rfl⟩ : ∃ a b, cs = [a, b] := by
    match cs, hl with
    | [a, b], _ => exact ⟨a, b, rfl⟩
  have h0 := hf 0 _ rfl
  have h1 := hf 1 _ rfl
  simp [c3, c36] at h0 h1
  simp at hx
  obtain ⟨a0, p0, r0⟩ := open1 o3 (fun _ => rfl) h0 (by omega)
  obtain ⟨a1, p1, r1⟩ := open1 o36 (fun _ => rfl) h1 (by omega)
  obtain ⟨q1, q2⟩ := cells_rel (.cons r0 (.cons r1 .nil))
  exact ⟨⟨a0, a1⟩, ⟨p0, p1⟩, q1, by simp, q2⟩
theorem o48 : Opens enc Try.prog w 48 Actr Actr.av Actr.R := by
  intro fuel cs x h
  obtain ⟨xs, n, rfl, rfl, hl, hx, hf⟩ := DataW.trod_struct Try.underlying48 h
  rw [c48] at hl
  obtain ⟨v0, v1, v2, v3, rfl⟩ : ∃ a b c d, cs = [a, b, c, d] := by
    match cs, hl with
    | [a, b, c, d], _ => exact ⟨a, b, c, d, rfl⟩
  have h0 := hf 0 _ rfl
  have h1 := hf 1 _ rfl
  have h2 := hf 2 _ rfl
  have h3 := hf 3 _ rfl
  simp [c3, c4, c46] at h0 h1 h2 h3
  simp at hx
  obtain ⟨a0, p0, r0⟩ := open1 o46 (fun _ => rfl) h0 (by omega)
  obtain ⟨a1, p1, r1⟩ := open1 o3 (fun _ => rfl) h1 (by omega)
  obtain ⟨a2, p2, r2⟩ := open1 o3 (fun _ => rfl) h2 (by omega)
  obtain ⟨a3, p3, r3⟩ := open1 o4 (fun _ => rfl) h3 (by omega)
  obtain ⟨q1, q2⟩ := cells_rel (.cons r0 (.cons r1 (.cons r2 (.cons r3 .nil))))
  exact ⟨⟨a0, a1, a2, a3⟩, ⟨p0, p1, p2⟩, q1, by simp, q2⟩
theorem o50 : Opens enc Try.prog w 50 Nt Nt.av Nt.R := by
  intro fuel cs x h
  obtain ⟨xs, n, rfl, rfl, hl, hx, hf⟩ := DataW.trod_struct Try.underlying50 h
  rw [c50] at hl
  obtain ⟨v0, v1, v2, rfl⟩ : ∃ a b c, cs = [a, b, c] := by
    match cs, hl with
    | [a, b, c], _ => exact ⟨a, b, c, rfl⟩
  have h0 := hf 0 _ rfl
  have h1 := hf 1 _ rfl
  have h2 := hf 2 _ rfl
  simp [c3, c4, c46] at h0 h1 h2
  simp at hx
  obtain ⟨a0, p0, r0⟩ := open1 o3 (fun _ => rfl) h0 (by omega)
  obtain ⟨a1, p1, r1⟩ := open1 o3 (fun _ => rfl) h1 (by omega)
  obtain ⟨a2, p2, r2⟩ := open1 o46 (fun _ => rfl) h2 (by omega)
  obtain ⟨q1, q2⟩ := cells_rel (.cons r0 (.cons r1 (.cons r2 .nil)))
  exact ⟨⟨a0, a1, a2⟩, ⟨p0, p1, p2⟩, q1, by simp, q2⟩
theorem o30 : Opens enc Try.prog w 30 (List Hnd) (fun l => .lst 2 (l.map Hnd.av)) (fun l => l.length ≤ maxLen ∧ ∀ x ∈ l, x.R) := opens_slice Try.underlying30 2 c38 (by decide) o38 (fun _ => rfl)
theorem o31 : Opens enc Try.prog w 31 (List Actr) (fun l => .lst 4 (l.map Actr.av)) (fun l => l.length ≤ maxLen ∧ ∀ x ∈ l, x.R) := opens_slice Try.underlying31 4 c48 (by decide) o48 (fun _ => rfl)
theorem o32 : Opens enc Try.prog w 32 (List Nt) (fun l => .lst 3 (l.map Nt.av)) (fun l => l.length ≤ maxLen ∧ ∀ x ∈ l, x.R) := opens_slice Try.underlying32 3 c50 (by decide) o50 (fun _ => rfl)
theorem o34 : Opens enc Try.prog w 34 Prg Prg.av Prg.R := by
  intro fuel cs x h
  obtain ⟨xs, n, rfl, rfl, hl, hx, hf⟩ := DataW.trod_struct Try.underlying34 h
  rw [c34] at hl
  obtain ⟨v0, v1, v2, v3, rfl⟩ : ∃ a b c d, cs = [a, b, c, d] := by
    match cs, hl with
    | [a, b, c, d], _ => exact ⟨a, b, c, d, rfl⟩
  have h0 := hf 0 _ rfl
  have h1 := hf 1 _ rfl
  have h2 := hf 2 _ rfl
  have h3 := hf 3 _ rfl
  simp [c3, c4, c30, c31, c32] at h0 h1 h2 h3
  simp at hx
  obtain ⟨a0, p0, r0⟩ := open1 o30 (fun _ => rfl) h0 (by omega)
  obtain ⟨a1, p1, r1⟩ := open1 o31 (fun _ => rfl) h1 (by omega)
  obtain ⟨a2, p2, r2⟩ := open1 o32 (fun _ => rfl) h2 (by omega)
  obtain ⟨a3, p3, r3⟩ := open1 o3 (fun _ => rfl) h3 (by omega)
  obtain ⟨q1, q2⟩ := cells_rel (.cons r0 (.cons r1 (.cons r2 (.cons r3 .nil))))
  exact ⟨⟨a0, a1, a2, a3⟩, ⟨p0, p1, p2, p3⟩, q1, by simp, q2⟩
end

/-- A struct's value. -/
theorem agg_of_cells {K : Nat → Nat → Option Value} {cs : List AV} {v : Value} (h2 : 2 ≤ cs.length) (hl : v.cells.toList.length = cs.length) (h1 : ∀ y ∈ cs, y.one = true)
    (hr : ∀ (j : Nat) (y : AV) (u : Value), cs[j]? = some y → v.cells.toList[j]? = some u → Rel (envK K) y u) : Rel (envK K) (.agg cs) v := by
  have : ∃ vs, v = .agg vs := by
    cases v <;> first | exact ⟨_, rfl⟩ | (simp [Value.cells] at hl; omega)
  obtain ⟨vs, rfl⟩ := this
  refine .agg cs vs (by simpa [Value.cells] using hl.symm) (fun j y hy => h1 y (List.mem_of_getElem? hy)) (fun j y u hy hu => hr j y u hy (by simpa [Value.cells] using hu))
theorem open_prg {H : Type} {enc : TypeId × Value → H} {w : World} {v : Value} {d : DataW H} {ps : List MemPlace} (h : DataW.Trod enc Try.prog w 0 (fun _ => true) true 34 v d ps) : ∃ p : Prg, p.R ∧ Rel (envK (Kw w)) p.av v := by
  obtain ⟨fuel, h⟩ := h
  obtain ⟨p, p1, p2, p3, p4⟩ := o34 _ _ _ h
  exact ⟨p, p1, agg_of_cells (by simp) p2 p3 p4⟩
theorem open_note {H : Type} {enc : TypeId × Value → H} {w : World} {v : Value} {d : DataW H} {ps : List MemPlace} (h : DataW.Trod enc Try.prog w 0 (fun _ => true) true 50 v d ps) : ∃ p : Nt, p.R ∧ Rel (envK (Kw w)) p.av v := by
  obtain ⟨fuel, h⟩ := h
  obtain ⟨p, p1, p2, p3, p4⟩ := o50 _ _ _ h
  exact ⟨p, p1, agg_of_cells (by simp) p2 p3 p4⟩

end Go.Gv
