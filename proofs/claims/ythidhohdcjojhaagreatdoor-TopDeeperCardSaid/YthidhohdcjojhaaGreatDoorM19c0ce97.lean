/- Texts of this proof, one behind the other. What is proved, and on which conditions, stands ahead of each. -/
import Derived.Test.YthidhohdcjojhaaGreatDoorProg
import Derived.Test.YthidhohdcjojhaaGreatDoorM16dc7a1b
import Derived.Test.YthidhohdcjojhaaGreatDoorM1721ebca

set_option linter.unusedVariables false
set_option linter.unusedSimpArgs false
namespace Go.Gv
open Go.Proofs
theorem len2 {α : Type} {l : List α} (h : l.length = 2) : ∃ a b, l = [a, b] := by
 match l, h with
 | [a, b], _ => exact ⟨a, b, rfl⟩
theorem len3 {α : Type} {l : List α} (h : l.length = 3) : ∃ a b c, l = [a, b, c] := by
 match l, h with
 | [a, b, c], _ => exact ⟨a, b, c, rfl⟩
theorem len4 {α : Type} {l : List α} (h : l.length = 4) : ∃ a b c d, l = [a, b, c, d] := by
 match l, h with
 | [a, b, c, d], _ => exact ⟨a, b, c, d, rfl⟩
section
variable {H : Type} {enc : TypeId × Value -> H} {P : Program} {w : World}
theorem open1 {ty : TypeId} {A : Type} {f : A -> AV} {Pr : A -> Prop} (ho : Opens enc P w ty A f Pr) (h1 : ∀ a, (f a).cells = [f a]) {n i : Nat} {c : Value} {xs : List (DataW H × List MemPlace)}
   (h : DataW.trod enc P w 0 (fun _ => true) true n ty [c] = xs[i]?) (hi : i < xs.length) : ∃ a, Pr a /\ Rel (envK (Kw w)) (f a) c := by
 rw [List.getElem?_eq_getElem hi] at h
 obtain ⟨a, p1, p2, p3, p4⟩ := ho _ _ _ h
 exact ⟨a, p1, p4 0 (f a) c (by rw [h1]; rfl) rfl⟩
inductive RelL (E : Env) : List AV -> List Value -> Prop where
 | nil : RelL E [] []
 | cons {x : AV} {v : Value} {xs : List AV} {vs : List Value} : Rel E x v -> RelL E xs vs -> RelL E (x :: xs) (v :: vs)
theorem cells_rel {E : Env} {xs : List AV} {cs : List Value} (h : RelL E xs cs) : cs.length = xs.length /\ ∀ (j : Nat) (y : AV) (u : Value), xs[j]? = some y -> cs[j]? = some u -> Rel E y u := by
 induction h with
 | nil => exact ⟨rfl, by simp⟩
 | cons a b ih =>
   refine ⟨by simp [ih.1], ?_⟩
   intro j y u hy hu
   cases j with
   | zero => simp at hy hu; subst hy; subst hu; exact a
   | succ j => exact ih.2 j y u (by simpa using hy) (by simpa using hu)
end
def Ins.R (i : Ins) : Prop := InR i.op /\ InR i.a
def Hnd.R (h : Hnd) : Prop := InR h.args /\ h.code.length <= maxLen /\ ∀ i ∈ h.code, i.R
def Actr.R (a : Actr) : Prop := (a.regs.length <= maxLen /\ ∀ x ∈ a.regs, InR x) /\ InR a.cap /\ InR a.timer
def Nt.R (n : Nt) : Prop := InR n.to /\ InR n.hd /\ n.args.length <= maxLen /\ ∀ x ∈ n.args, InR x
def Prg.R (p : Prg) : Prop := (p.hs.length <= maxLen /\ ∀ h ∈ p.hs, h.R) /\ (p.as.length <= maxLen /\ ∀ h ∈ p.as, h.R) /\ (p.boot.length <= maxLen /\ ∀ h ∈ p.boot, h.R) /\ InR p.fuel
section
variable {H : Type} {enc : TypeId × Value -> H} {w : World}
theorem c_int : Tryz.prog.cellsOf 3 = 1 := by kernel_rfl
theorem c_bool : Tryz.prog.cellsOf 4 = 1 := by kernel_rfl
theorem c_instr : Tryz.prog.cellsOf 49 = 2 := by kernel_rfl
theorem c_instrs : Tryz.prog.cellsOf 50 = 1 := by kernel_rfl
theorem c_ints : Tryz.prog.cellsOf 54 = 1 := by kernel_rfl
theorem c_handler : Tryz.prog.cellsOf 52 = 2 := by kernel_rfl
theorem c_actor : Tryz.prog.cellsOf 56 = 4 := by kernel_rfl
theorem c_note : Tryz.prog.cellsOf 58 = 3 := by kernel_rfl
theorem c_handlers : Tryz.prog.cellsOf 22 = 1 := by kernel_rfl
theorem c_actors : Tryz.prog.cellsOf 23 = 1 := by kernel_rfl
theorem c_notes : Tryz.prog.cellsOf 24 = 1 := by kernel_rfl
theorem c_program : Tryz.prog.cellsOf 26 = 4 := by kernel_rfl
theorem o_int : Opens enc Tryz.prog w 3 Int iv InR := opens_int Tryz.underlying3
theorem o_bool : Opens enc Tryz.prog w 4 Bool AV.bool (fun _ => True) := opens_bool Tryz.underlying4
theorem o_ints : Opens enc Tryz.prog w 54 (List Int) ints (fun l => l.length <= maxLen /\ ∀ x ∈ l, InR x) := opens_slice Tryz.underlying54 1 c_int (by decide) o_int (fun _ => rfl)
theorem o_instr : Opens enc Tryz.prog w 49 Ins Ins.av Ins.R := by
 intro fuel cs x h
 obtain ⟨xs, n, rfl, rfl, hl, hx, hf⟩ := DataW.trod_struct Tryz.underlying49 h
 rw [c_instr] at hl
 obtain ⟨v0, v1, rfl⟩ := len2 hl
 have h0 := hf 0 _ rfl
 have h1 := hf 1 _ rfl
 simp [c_int] at h0 h1
 simp at hx
 obtain ⟨a0, p0, r0⟩ := open1 o_int (fun _ => rfl) h0 (by omega)
 obtain ⟨a1, p1, r1⟩ := open1 o_int (fun _ => rfl) h1 (by omega)
 obtain ⟨q1, q2⟩ := cells_rel (.cons r0 (.cons r1 .nil))
 exact ⟨⟨a0, a1⟩, ⟨p0, p1⟩, q1, by simp, q2⟩
theorem o_instrs : Opens enc Tryz.prog w 50 (List Ins) (fun l => .lst 2 (l.map Ins.av)) (fun l => l.length <= maxLen /\ ∀ x ∈ l, x.R) := opens_slice Tryz.underlying50 2 c_instr (by decide) o_instr (fun _ => rfl)
theorem o_handler : Opens enc Tryz.prog w 52 Hnd Hnd.av Hnd.R := by
 intro fuel cs x h
 obtain ⟨xs, n, rfl, rfl, hl, hx, hf⟩ := DataW.trod_struct Tryz.underlying52 h
 rw [c_handler] at hl
 obtain ⟨v0, v1, rfl⟩ := len2 hl
 have h0 := hf 0 _ rfl
 have h1 := hf 1 _ rfl
 simp [c_int, c_instrs] at h0 h1
 simp at hx
 obtain ⟨a0, p0, r0⟩ := open1 o_int (fun _ => rfl) h0 (by omega)
 obtain ⟨a1, p1, r1⟩ := open1 o_instrs (fun _ => rfl) h1 (by omega)
 obtain ⟨q1, q2⟩ := cells_rel (.cons r0 (.cons r1 .nil))
 exact ⟨⟨a0, a1⟩, ⟨p0, p1⟩, q1, by simp, q2⟩
theorem o_actor : Opens enc Tryz.prog w 56 Actr Actr.av Actr.R := by
 intro fuel cs x h
 obtain ⟨xs, n, rfl, rfl, hl, hx, hf⟩ := DataW.trod_struct Tryz.underlying56 h
 rw [c_actor] at hl
 obtain ⟨v0, v1, v2, v3, rfl⟩ := len4 hl
 have h0 := hf 0 _ rfl
 have h1 := hf 1 _ rfl
 have h2 := hf 2 _ rfl
 have h3 := hf 3 _ rfl
 simp [c_int, c_bool, c_ints] at h0 h1 h2 h3
 simp at hx
 obtain ⟨a0, p0, r0⟩ := open1 o_ints (fun _ => rfl) h0 (by omega)
 obtain ⟨a1, p1, r1⟩ := open1 o_int (fun _ => rfl) h1 (by omega)
 obtain ⟨a2, p2, r2⟩ := open1 o_int (fun _ => rfl) h2 (by omega)
 obtain ⟨a3, p3, r3⟩ := open1 o_bool (fun _ => rfl) h3 (by omega)
 obtain ⟨q1, q2⟩ := cells_rel (.cons r0 (.cons r1 (.cons r2 (.cons r3 .nil))))
 exact ⟨⟨a0, a1, a2, a3⟩, ⟨p0, p1, p2⟩, q1, by simp, q2⟩
theorem o_note : Opens enc Tryz.prog w 58 Nt Nt.av Nt.R := by
 intro fuel cs x h
 obtain ⟨xs, n, rfl, rfl, hl, hx, hf⟩ := DataW.trod_struct Tryz.underlying58 h
 rw [c_note] at hl
 obtain ⟨v0, v1, v2, rfl⟩ := len3 hl
 have h0 := hf 0 _ rfl
 have h1 := hf 1 _ rfl
 have h2 := hf 2 _ rfl
 simp [c_int, c_bool, c_ints] at h0 h1 h2
 simp at hx
 obtain ⟨a0, p0, r0⟩ := open1 o_int (fun _ => rfl) h0 (by omega)
 obtain ⟨a1, p1, r1⟩ := open1 o_int (fun _ => rfl) h1 (by omega)
 obtain ⟨a2, p2, r2⟩ := open1 o_ints (fun _ => rfl) h2 (by omega)
 obtain ⟨q1, q2⟩ := cells_rel (.cons r0 (.cons r1 (.cons r2 .nil)))
 exact ⟨⟨a0, a1, a2⟩, ⟨p0, p1, p2⟩, q1, by simp, q2⟩
theorem o_handlers : Opens enc Tryz.prog w 22 (List Hnd) (fun l => .lst 2 (l.map Hnd.av)) (fun l => l.length <= maxLen /\ ∀ x ∈ l, x.R) := opens_slice Tryz.underlying22 2 c_handler (by decide) o_handler (fun _ => rfl)
theorem o_actors : Opens enc Tryz.prog w 23 (List Actr) (fun l => .lst 4 (l.map Actr.av)) (fun l => l.length <= maxLen /\ ∀ x ∈ l, x.R) := opens_slice Tryz.underlying23 4 c_actor (by decide) o_actor (fun _ => rfl)
theorem o_notes : Opens enc Tryz.prog w 24 (List Nt) (fun l => .lst 3 (l.map Nt.av)) (fun l => l.length <= maxLen /\ ∀ x ∈ l, x.R) := opens_slice Tryz.underlying24 3 c_note (by decide) o_note (fun _ => rfl)
theorem o_program : Opens enc Tryz.prog w 26 Prg Prg.av Prg.R := by
 intro fuel cs x h
 obtain ⟨xs, n, rfl, rfl, hl, hx, hf⟩ := DataW.trod_struct Tryz.underlying26 h
 rw [c_program] at hl
 obtain ⟨v0, v1, v2, v3, rfl⟩ := len4 hl
 have h0 := hf 0 _ rfl
 have h1 := hf 1 _ rfl
 have h2 := hf 2 _ rfl
 have h3 := hf 3 _ rfl
 simp [c_int, c_bool, c_handlers, c_actors, c_notes] at h0 h1 h2 h3
 simp at hx
 obtain ⟨a0, p0, r0⟩ := open1 o_handlers (fun _ => rfl) h0 (by omega)
 obtain ⟨a1, p1, r1⟩ := open1 o_actors (fun _ => rfl) h1 (by omega)
 obtain ⟨a2, p2, r2⟩ := open1 o_notes (fun _ => rfl) h2 (by omega)
 obtain ⟨a3, p3, r3⟩ := open1 o_int (fun _ => rfl) h3 (by omega)
 obtain ⟨q1, q2⟩ := cells_rel (.cons r0 (.cons r1 (.cons r2 (.cons r3 .nil))))
 exact ⟨⟨a0, a1, a2, a3⟩, ⟨p0, p1, p2, p3⟩, q1, by simp, q2⟩
end
theorem agg_of_cells {K : Nat -> Nat -> Option Value} {cs : List AV} {v : Value} (h2 : 2 <= cs.length) (hl : v.cells.toList.length = cs.length) (h1 : ∀ y ∈ cs, y.one = true)
   (hr : ∀ (j : Nat) (y : AV) (u : Value), cs[j]? = some y -> v.cells.toList[j]? = some u -> Rel (envK K) y u) : Rel (envK K) (.agg cs) v := by
 have : ∃ vs, v = .agg vs := by
   cases v <;> first | exact ⟨_, rfl⟩ | (simp [Value.cells] at hl; omega)
 obtain ⟨vs, rfl⟩ := this
 refine .agg cs vs (by simpa [Value.cells] using hl.symm) (fun j y hy => h1 y (List.mem_of_getElem? hy)) (fun j y u hy hu => hr j y u hy (by simpa [Value.cells] using hu))
structure Lcl where
 regs : List Int
 armed : Bool
 down : Int
 sent : Int
 over : Int
def Lcl.av (l : Lcl) : AV := .agg [ints l.regs, .bool l.armed, iv l.down, iv l.sent, iv l.over]
@[simp] theorem Lcl.cells_av (l : Lcl) : l.av.cells = [ints l.regs, .bool l.armed, iv l.down, iv l.sent, iv l.over] := rfl
def Lcl.R (l : Lcl) : Prop := (l.regs.length <= maxLen /\ ∀ x ∈ l.regs, InR x) /\ InR l.down /\ InR l.sent /\ InR l.over
end Go.Gv

namespace Go.Gv
open Go.Proofs
def struth_r0 : List AI := [oA 2 (.mv (.c (.int .i64 0)))]
def struth_r1 : List AI := [oA 3 (.mv (.t 0))]
def struth_r2 : List AI := [oA 2 (.mv (.c (.int .i64 1)))]
def struth_r3 : List AI := [oA 2 (.mv (.c (.int .i64 0)))]
def struth_c : AC := (.seq (.reg struth_r0) (.seq (.seq (.reg struth_r1) (.cond (.t 3) (.seq (.reg struth_r2) .ret) .skip)) (.seq (.reg struth_r3) .ret)))
def struth_res : List ARes := [(.tmp 2)]
set_option maxRecDepth 100000 in
theorem struth_get : getF Tryz.prog 214 133000 [] = some ("gavotte/sums.Truth", 4, struth_c, struth_res) := by kernel_rfl
def sparts_r0 : List AI := [oA 6 (.mv (.c (.int .i64 0))), oA 7 (.mv (.c (.int .i64 0)))]
def sparts_r1 : List AI := [oA 9 (.mv (.t 2)), oA 10 (.ibin .eql (.t 9) (.c (.int .i64 0))), oA 8 (.mv (.t 10))]
def sparts_r2 : List AI := [oA 6 (.mv (.c (.int .i64 0))), oA 7 (.mv (.c (.int .i64 3)))]
def sparts_r3 : List AI := [oA 12 (.mv (.t 0)), oA 13 (.ibin .eql (.t 12) (.c (.int .i64 12))), oA 11 (.mv (.t 13))]
def sparts_r4 : List AI := [oA 14 (.mv (.t 1)), oA 15 (.mv (.t 2)), oA 16 (.ibin .quo (.t 14) (.t 15)), oA 6 (.mv (.t 16)), oA 7 (.mv (.c (.int .i64 0)))]
def sparts_r5 : List AI := [oA 17 (.mv (.t 1)), oA 18 (.mv (.t 2)), oA 19 (.ibin .rem (.t 17) (.t 18)), oA 6 (.mv (.t 19)), oA 7 (.mv (.c (.int .i64 0)))]
def sparts_c : AC := (.seq (.reg sparts_r0) (.seq (.block 0 (.seq (.reg sparts_r1) (.cond (.t 8) (.seq (.reg sparts_r2) .ret) (.seq (.reg sparts_r3) (.cond (.t 11) (.seq (.reg sparts_r4) .ret) .skip))))) (.seq (.reg sparts_r5) .ret)))
def sparts_res : List ARes := [(.tmp 6), (.tmp 7)]
set_option maxRecDepth 100000 in
theorem sparts_get : getF Tryz.prog 215 134000 [] = some ("gavotte/sums.parts", 20, sparts_c, sparts_res) := by kernel_rfl
def sone_r0 : List AI := [oA 4 (.mv (.c (.int .i64 0))), oA 5 (.mv (.c (.bool false)))]
def sone_r1 : List AI := [oA 6 (.mv (.t 0))]
def sone_r2 : List AI := [oA 8 (.ibin .eql (.t 6) (.c (.int .i64 14))), oA 7 (.mv (.t 8))]
def sone_r3 : List AI := [oA 9 (.mv (.t 1)), oA 10 (.neg (.t 9)), oA 4 (.mv (.t 10)), oA 5 (.mv (.c (.bool true)))]
def sone_r4 : List AI := [oA 12 (.ibin .eql (.t 6) (.c (.int .i64 19))), oA 11 (.mv (.t 12))]
def sone_r5 : List AI := [oA 13 (.mv (.t 1)), oA 14 (.ibin .eql (.t 13) (.c (.int .i64 0))), oC 15 (.c (.fn 214 [])) [(.t 14)], oA 4 (.mv (.t 15)), oA 5 (.mv (.c (.bool true)))]
def sone_r6 : List AI := [oA 4 (.mv (.c (.int .i64 0))), oA 5 (.mv (.c (.bool false)))]
def sone_c : AC := (.seq (.reg sone_r0) (.seq (.seq (.reg sone_r1) (.block 0 (.seq (.reg sone_r2) (.cond (.t 7) (.seq (.reg sone_r3) .ret) (.seq (.reg sone_r4) (.cond (.t 11) (.seq (.reg sone_r5) .ret) .skip)))))) (.seq (.reg sone_r6) .ret)))
def sone_res : List ARes := [(.tmp 4), (.tmp 5)]
set_option maxRecDepth 100000 in
theorem sone_get : getF Tryz.prog 178 121000 [] = some ("gavotte/sums.One", 16, sone_c, sone_res) := by kernel_rfl
def stwo_r0 : List AI := [oA 6 (.mv (.c (.int .i64 0))), oA 7 (.mv (.c (.int .i64 0)))]
def stwo_r1 : List AI := [oA 8 (.mv (.t 0))]
def stwo_r2 : List AI := [oA 10 (.ibin .eql (.t 8) (.c (.int .i64 9))), oA 9 (.mv (.t 10))]
def stwo_r3 : List AI := [oA 11 (.mv (.t 1)), oA 12 (.mv (.t 2)), oA 13 (.ibin .add (.t 11) (.t 12)), oA 6 (.mv (.t 13)), oA 7 (.mv (.c (.int .i64 0)))]
def stwo_r4 : List AI := [oA 15 (.ibin .eql (.t 8) (.c (.int .i64 10))), oA 14 (.mv (.t 15))]
def stwo_r5 : List AI := [oA 16 (.mv (.t 1)), oA 17 (.mv (.t 2)), oA 18 (.ibin .sub (.t 16) (.t 17)), oA 6 (.mv (.t 18)), oA 7 (.mv (.c (.int .i64 0)))]
def stwo_r6 : List AI := [oA 20 (.ibin .eql (.t 8) (.c (.int .i64 11))), oA 19 (.mv (.t 20))]
def stwo_r7 : List AI := [oA 21 (.mv (.t 1)), oA 22 (.mv (.t 2)), oA 23 (.ibin .mul (.t 21) (.t 22)), oA 6 (.mv (.t 23)), oA 7 (.mv (.c (.int .i64 0)))]
def stwo_r8 : List AI := [oA 25 (.ibin .eql (.t 8) (.c (.int .i64 15))), oA 24 (.mv (.t 25))]
def stwo_r9 : List AI := [oA 26 (.mv (.t 1)), oA 27 (.mv (.t 2)), oA 28 (.ibin .eql (.t 26) (.t 27)), oC 29 (.c (.fn 214 [])) [(.t 28)], oA 6 (.mv (.t 29)), oA 7 (.mv (.c (.int .i64 0)))]
def stwo_r10 : List AI := [oA 31 (.ibin .eql (.t 8) (.c (.int .i64 16))), oA 30 (.mv (.t 31))]
def stwo_r11 : List AI := [oA 32 (.mv (.t 1)), oA 33 (.mv (.t 2)), oA 34 (.ibin .lss (.t 32) (.t 33)), oC 35 (.c (.fn 214 [])) [(.t 34)], oA 6 (.mv (.t 35)), oA 7 (.mv (.c (.int .i64 0)))]
def stwo_r12 : List AI := [oA 37 (.ibin .eql (.t 8) (.c (.int .i64 17))), oA 36 (.mv (.t 37))]
def stwo_r13 : List AI := [oA 38 (.mv (.t 1)), oA 39 (.ibin .neq (.t 38) (.c (.int .i64 0))), oA 40 (.mv (.t 39)), oG 41 40 true (.mv (.t 2)), oG 42 40 true (.ibin .neq (.t 41) (.c (.int .i64 0))), oA 43 (.pick (.t 40) (.t 42) (.c (.bool false))), oC 44 (.c (.fn 214 [])) [(.t 43)], oA 6 (.mv (.t 44)), oA 7 (.mv (.c (.int .i64 0)))]
def stwo_r14 : List AI := [oA 46 (.ibin .eql (.t 8) (.c (.int .i64 18))), oA 45 (.mv (.t 46))]
def stwo_r15 : List AI := [oA 47 (.mv (.t 1)), oA 48 (.ibin .neq (.t 47) (.c (.int .i64 0))), oA 49 (.mv (.t 48)), oG 50 49 false (.mv (.t 2)), oG 51 49 false (.ibin .neq (.t 50) (.c (.int .i64 0))), oA 52 (.pick (.t 49) (.c (.bool true)) (.t 51)), oC 53 (.c (.fn 214 [])) [(.t 52)], oA 6 (.mv (.t 53)), oA 7 (.mv (.c (.int .i64 0)))]
def stwo_r16 : List AI := [oA 55 (.ibin .eql (.t 8) (.c (.int .i64 12))), oA 54 (.mv (.t 55))]
def stwo_r17 : List AI := [oA 56 (.ibin .eql (.t 8) (.c (.int .i64 13))), oA 54 (.mv (.t 56))]
def stwo_r18 : List AI := [oA 57 (.mv (.t 0)), oA 58 (.mv (.t 1)), oA 59 (.mv (.t 2)), oC 60 (.c (.fn 215 [])) [(.t 57), (.t 58), (.t 59)], oA 61 (.ext (.t 60) 0), oA 62 (.ext (.t 60) 1), oA 6 (.mv (.t 61)), oA 7 (.mv (.t 62))]
def stwo_r19 : List AI := [oA 6 (.mv (.c (.int .i64 0))), oA 7 (.mv (.c (.int .i64 0)))]
def stwo_c : AC := (.seq (.reg stwo_r0) (.seq (.seq (.reg stwo_r1) (.block 0 (.seq (.reg stwo_r2) (.cond (.t 9) (.seq (.reg stwo_r3) .ret) (.seq (.reg stwo_r4) (.cond (.t 14) (.seq (.reg stwo_r5) .ret) (.seq (.reg stwo_r6) (.cond (.t 19) (.seq (.reg stwo_r7) .ret) (.seq (.reg stwo_r8) (.cond (.t 24) (.seq (.reg stwo_r9) .ret) (.seq (.reg stwo_r10) (.cond (.t 30) (.seq (.reg stwo_r11) .ret) (.seq (.reg stwo_r12) (.cond (.t 36) (.seq (.reg stwo_r13) .ret) (.seq (.reg stwo_r14) (.cond (.t 45) (.seq (.reg stwo_r15) .ret) (.seq (.seq (.reg stwo_r16) (.cond (.t 54) .skip (.reg stwo_r17))) (.cond (.t 54) (.seq (.reg stwo_r18) .ret) .skip)))))))))))))))))) (.seq (.reg stwo_r19) .ret)))
def stwo_res : List ARes := [(.tmp 6), (.tmp 7)]
set_option maxRecDepth 100000 in
theorem stwo_get : getF Tryz.prog 179 122000 [] = some ("gavotte/sums.Two", 63, stwo_c, stwo_res) := by kernel_rfl
attribute [simp] struth_r0 struth_r1 struth_r2 struth_r3 struth_res sparts_r0 sparts_r1 sparts_r2 sparts_r3 sparts_r4 sparts_r5 sparts_res sone_r0 sone_r1 sone_r2 sone_r3 sone_r4 sone_r5 sone_r6 sone_res stwo_r0 stwo_r1 stwo_r2 stwo_r3 stwo_r4 stwo_r5 stwo_r6 stwo_r7 stwo_r8 stwo_r9 stwo_r10 stwo_r11 stwo_r12 stwo_r13 stwo_r14 stwo_r15 stwo_r16 stwo_r17 stwo_r18 stwo_r19 stwo_res
def tv (b : Bool) : Int := if b = true then 1 else 0
abbrev w64 (n : Int) : Int := IntKind.i64.wrap n
def oneV (op a : Int) : Int × Bool := if op = 14 then (w64 (0 - a), true) else if op = 19 then (tv (decide (a = 0)), true) else (0, false)
def twoV (op a b : Int) : Int × Int :=
 if op = 9 then (w64 (a + b), 0) else if op = 10 then (w64 (a - b), 0) else if op = 11 then (w64 (a * b), 0)
 else if op = 15 then (tv (decide (a = b)), 0) else if op = 16 then (tv (decide (a < b)), 0) else if op = 17 then (tv (decide (a ≠ 0 /\ b ≠ 0)), 0) else if op = 18 then (tv (decide (a ≠ 0 \/ b ≠ 0)), 0)
 else if op = 12 \/ op = 13 then (if b = 0 then (0, 3) else if op = 12 then (w64 (a.tdiv b), 0) else (a.tmod b, 0)) else (0, 0)
theorem struth_pc (b : Bool) : PC Tryz.prog 214 [.bool b] (iv (tv b)) := by
 refine pc_of_get struth_get (by simp) _ (by simp) _ ?_
 unfold struth_c
 cases b <;> simp [tv]
theorem sparts_pc (op a b : Int) : PC Tryz.prog 215 [iv op, iv a, iv b] (.tup [iv (if b = 0 then (0, 3) else if op = 12 then (w64 (a.tdiv b), 0) else (a.tmod b, 0)).1, iv (if b = 0 then (0, 3) else if op = 12 then (w64 (a.tdiv b), 0) else (a.tmod b, 0)).2]) := by
 refine pc_of_get sparts_get (by simp) _ (by simp) _ ?_
 unfold sparts_c
 by_cases hb : b = 0
 . simp [hb]
 . by_cases h : op = 12 <;> simp [hb, h]
theorem sone_pc (op a : Int) : PC Tryz.prog 178 [iv op, iv a] (.tup [iv (oneV op a).1, .bool (oneV op a).2]) := by
 refine pc_of_get sone_get (by simp) _ (by simp) _ ?_
 unfold sone_c oneV
 by_cases h1 : op = 14
 . simp [h1]
 by_cases h2 : op = 19
 . subst h2
   simp
   refine call (struth_pc (decide (a = 0))) (by simp) ?_
   simp
 simp [h1, h2]
theorem stwo_pc (op a b : Int) : PC Tryz.prog 179 [iv op, iv a, iv b] (.tup [iv (twoV op a b).1, iv (twoV op a b).2]) := by
 refine pc_of_get stwo_get (by simp) _ (by simp) _ ?_
 unfold stwo_c twoV
 by_cases h1 : op = 9
 . simp [h1]
 by_cases h2 : op = 10
 . simp [h2]
 by_cases h3 : op = 11
 . simp [h3]
 by_cases h4 : op = 15
 . subst h4
   simp
   refine call (struth_pc (decide (a = b))) (by simp) ?_
   simp
 by_cases h5 : op = 16
 . subst h5
   simp
   refine call (struth_pc (decide (a < b))) (by simp) ?_
   simp
 by_cases h6 : op = 17
 . subst h6
   by_cases ha : a = 0
   . simp [ha]
     refine call (struth_pc false) (by simp) ?_
     simp [ha]
   . simp [ha]
     refine call (struth_pc (!decide (b = 0))) (by simp) ?_
     simp [ha]
 by_cases h7 : op = 18
 . subst h7
   by_cases ha : a = 0
   . simp [ha]
     refine call (struth_pc (!decide (b = 0))) (by simp) ?_
     simp [ha]
   . simp [ha]
     refine call (struth_pc true) (by simp) ?_
     simp [ha]
 by_cases h8 : op = 12
 . subst h8
   simp
   refine call (sparts_pc 12 a b) (by simp) ?_
   by_cases hb : b = 0 <;> simp [hb]
 by_cases h9 : op = 13
 . subst h9
   simp
   refine call (sparts_pc 13 a b) (by simp) ?_
   by_cases hb : b = 0 <;> simp [hb]
 simp [h1, h2, h3, h4, h5, h6, h7, h8, h9]
end Go.Gv

namespace Go.Gv
open Go.Proofs
def cloneI_r0 : List AI := [oA 2 (.mv (.c .nils))]
def cloneI_r1 : List AI := [oA 3 (.mv (.t 0)), ⟨(some 4), none, (.nq 0 false (.t 3))⟩]
def cloneI_r2 : List AI := [oA 2 (.mv (.c .nils))]
def cloneI_r3 : List AI := [oA 5 (.bsl 63005 1 3 0 (.int .i64 0) []), oA 6 (.mv (.t 0)), oA 7 (.app 63007 1 3 8 (.t 5) (.t 6)), oA 2 (.mv (.t 7))]
def cloneI_c : AC := (.seq (.reg cloneI_r0) (.seq (.seq (.reg cloneI_r1) (.cond (.t 4) (.seq (.reg cloneI_r2) .ret) .skip)) (.seq (.reg cloneI_r3) .ret)))
def cloneI_res : List ARes := [(.tmp 2)]
set_option maxRecDepth 100000 in
theorem cloneI_get : getF Tryz.prog 91 63000 [] = some ("slices.Clone[[]int,int]", 8, cloneI_c, cloneI_res) := by kernel_rfl
def copyNote_r0 : List AI := [oA 1 (.box 51001 3 (.t 0)), oA 2 (.new 51002 3 (.agg [(.int .i64 0), (.int .i64 0), .nils]))]
def copyNote_r1 : List AI := [oA 3 (.fld 2 (.t 1)), oA 4 (.load none (.t 3)), oC 5 (.c (.fn 91 [])) [(.t 4)], oA 6 (.fld 2 (.t 1)), oN (.store 1 (.t 6) (.t 5))]
def copyNote_r2 : List AI := [oA 7 (.load (some 3) (.t 1)), oN (.store 3 (.t 2) (.t 7))]
def copyNote_c : AC := (.seq (.reg copyNote_r0) (.seq (.reg copyNote_r1) (.seq (.reg copyNote_r2) .ret)))
def copyNote_res : List ARes := [(.cell (some 3) 2)]
set_option maxRecDepth 100000 in
theorem copyNote_get : getF Tryz.prog 236 51000 [] = some ("gavotte/prog.CopyNote", 8, copyNote_c, copyNote_res) := by kernel_rfl
attribute [simp] cloneI_r0 cloneI_r1 cloneI_r2 cloneI_r3 cloneI_res copyNote_r0 copyNote_r1 copyNote_r2 copyNote_res
theorem cloneInts_pc (l : List Int) (h : l.length <= 1000) : PC Tryz.prog 91 [ints l] (ints l) := by
 refine pc_of_get cloneI_get (by simp) _ (by simp) _ ?_
 unfold cloneI_c
 cases l with
 | nil =>
   simp
   refine opG_none _ _ ?_ ?_ <;> simp
 | cons x l =>
   simp at h
   simp [ints]
   rw [if_pos (by omega)]
   simp
theorem copyNote_pc (n : Nt) (h : n.args.length <= 1000) : PC Tryz.prog 236 [n.av] n.av := by
 refine pc_of_get copyNote_get (by simp) _ (by simp) _ ?_
 unfold copyNote_c
 simp
 refine call (cloneInts_pc n.args h) (by simp) ?_
 simp
def AccIs (S : St) (v : AV) (nm sz : Nat) (ty : TypeId) (xs : List AV) : Prop := (v = .nils /\ xs = []) \/ ∃ st, v = .acc nm st sz xs /\ S.tok nm = some ⟨st, sz, ty⟩
theorem take_succ_map {α : Type} (f : α -> AV) (l : List α) (i : Nat) (h : i < l.length) : (l.map f).take (i + 1) = (l.map f).take i ++ [f l[i]] := by
 rw [List.take_succ_eq_append_getElem (by simpa using h), List.getElem_map]
theorem AccIs.out {S : St} {v : AV} {nm sz : Nat} {ty : TypeId} {xs : List AV} (h : AccIs S v nm sz ty xs) : v.one = true /\ v.cells = [v] /\ ∀ B, co1 B v (.lst sz xs) := by
 rcases h with ⟨rfl, rfl⟩ | ⟨st, rfl, _⟩ <;> simp
end Go.Gv

namespace Go.Gv
open Go.Proofs
def mpop_r0 : List AI := [oA 2 (.mv (.c (.int .i64 0)))]
def mpop_r1 : List AI := [oA 4 (.mv (.t 0)), oA 5 (.nilck (.t 4)), oA 6 (.fld 11 (.t 5)), oA 7 (.load none (.t 6)), oA 8 (.mv (.t 0)), oA 9 (.nilck (.t 8)), oA 10 (.fld 11 (.t 9)), oA 11 (.load none (.t 10)), oA 12 (.len (.t 11)), oA 13 (.ibin .sub (.t 12) (.c (.int .i64 1))), oA 14 (.idx 1 (.t 7) (.t 13)), oA 15 (.load none (.t 14)), oA 3 (.mv (.t 15))]
def mpop_p1 : List (List Nat) := [[], [0], [1, 0], [2, 1, 0], [], [4], [5, 4], [6, 5, 4], [7, 6, 5, 4], [8, 7, 6, 5, 4], [3, 9, 2, 1, 0, 8, 7, 6, 5, 4], [10, 3, 9, 2, 1, 0, 8, 7, 6, 5, 4], [11, 0, 1, 2, 3, 4, 5, 6, 7, 8, 9, 10]]
def mpop_r2 : List AI := [oA 16 (.mv (.t 0)), oA 17 (.mv (.t 0)), oA 18 (.nilck (.t 17)), oA 19 (.fld 11 (.t 18)), oA 20 (.load none (.t 19)), oA 21 (.mv (.t 0)), oA 22 (.nilck (.t 21)), oA 23 (.fld 11 (.t 22)), oA 24 (.load none (.t 23)), oA 25 (.len (.t 24)), oA 26 (.ibin .sub (.t 25) (.c (.int .i64 1))), oA 27 (.slice (some 1) (.t 20) none (some (.t 26))), oA 28 (.nilck (.t 16)), oA 29 (.fld 11 (.t 28)), oN (.store 1 (.t 29) (.t 27))]
def mpop_p2 : List (List Nat) := [[], [], [1], [2, 1], [3, 2, 1], [], [5], [6, 5], [7, 6, 5], [8, 7, 6, 5], [9, 8, 7, 6, 5], [4, 10, 3, 2, 1, 9, 8, 7, 6, 5], [0, 1, 2, 3, 4, 5, 6, 7, 8, 9, 10, 11], [12, 0, 1, 2, 3, 4, 5, 6, 7, 8, 9, 10, 11], [13, 11, 0, 1, 2, 3, 4, 5, 6, 7, 8, 9, 10, 12]]
def mpop_r3 : List AI := [oA 30 (.mv (.t 3)), oA 2 (.mv (.t 30))]
def mpop_c : AC := (.seq (.reg mpop_r0) (.seq (.regd mpop_r1 mpop_p1) (.seq (.regd mpop_r2 mpop_p2) (.seq (.reg mpop_r3) .ret))))
def mpop_res : List ARes := [(.tmp 2)]
set_option maxRecDepth 100000 in
theorem mpop_get : getF Tryz.prog 238 108000 [] = some ("(*gavotte/vm.machine).pop", 31, mpop_c, mpop_res) := by kernel_rfl
def mcount_r0 : List AI := [oA 4 (.mv (.c (.int .i64 0)))]
def mcount_r1 : List AI := [oA 10 (.mv (.t 0)), oC 11 (.c (.fn 238 [])) [(.t 10)], oA 5 (.mv (.t 11))]
def mcount_r2 : List AI := [oA 13 (.mv (.t 1)), oA 14 (.mv (.t 5)), oC 15 (.c (.fn 178 [])) [(.t 13), (.t 14)], oA 12 (.mv (.t 15)), oA 16 (.ext (.t 12) 0), oA 17 (.ext (.t 12) 1), oA 6 (.mv (.t 16)), oA 7 (.mv (.t 17))]
def mcount_r3 : List AI := [oA 18 (.mv (.t 7))]
def mcount_r4 : List AI := [oA 19 (.mv (.t 0)), oA 20 (.mv (.t 6)), oA 21 (.bsl 111021 1 3 1 (.int .i64 0) [(0, (.t 20))]), oC 22 (.c (.fn 237 [])) [(.t 19), (.t 21)]]
def mcount_r5 : List AI := [oA 4 (.mv (.c (.int .i64 0)))]
def mcount_r6 : List AI := [oA 24 (.mv (.t 1)), oA 25 (.mv (.t 0)), oC 26 (.c (.fn 238 [])) [(.t 25)], oA 27 (.mv (.t 5)), oC 28 (.c (.fn 179 [])) [(.t 24), (.t 26), (.t 27)], oA 23 (.mv (.t 28)), oA 29 (.ext (.t 23) 0), oA 30 (.ext (.t 23) 1), oA 8 (.mv (.t 29)), oA 9 (.mv (.t 30))]
def mcount_r7 : List AI := [oA 31 (.mv (.t 0)), oA 32 (.mv (.t 8)), oA 33 (.bsl 111033 1 3 1 (.int .i64 0) [(0, (.t 32))]), oC 34 (.c (.fn 237 [])) [(.t 31), (.t 33)]]
def mcount_r8 : List AI := [oA 35 (.mv (.t 9)), oA 4 (.mv (.t 35))]
def mcount_c : AC := (.seq (.reg mcount_r0) (.seq (.reg mcount_r1) (.seq (.seq (.reg mcount_r2) (.seq (.reg mcount_r3) (.cond (.t 18) (.seq (.reg mcount_r4) (.seq (.reg mcount_r5) .ret)) .skip))) (.seq (.reg mcount_r6) (.seq (.reg mcount_r7) (.seq (.reg mcount_r8) .ret))))))
def mcount_res : List ARes := [(.tmp 4)]
set_option maxRecDepth 100000 in
theorem mcount_get : getF Tryz.prog 241 111000 [] = some ("(*gavotte/vm.machine).count", 36, mcount_c, mcount_res) := by kernel_rfl
def mpush_r0 : List AI := [oA 4 (.mv (.t 0)), oA 5 (.mv (.t 0)), oA 6 (.nilck (.t 5)), oA 7 (.fld 11 (.t 6)), oA 8 (.load none (.t 7)), oA 9 (.mv (.t 1)), oA 10 (.appw 1000107000 1 3 8 (.t 8) (.t 9)), oA 11 (.nilck (.t 4)), oA 12 (.fld 11 (.t 11)), oN (.store 1 (.t 12) (.t 10))]
def mpush_c : AC := (.reg mpush_r0)
def mpush_res : List ARes := []
set_option maxRecDepth 100000 in
theorem mpush_get : getF Tryz.prog 237 107000 [(10, 1000000000)] = some ("(*gavotte/vm.machine).push", 13, mpush_c, mpush_res) := by kernel_rfl
attribute [simp] mpop_r0 mpop_r1 mpop_p1 mpop_r2 mpop_p2 mpop_r3 mpop_res mcount_r0 mcount_r1 mcount_r2 mcount_r3 mcount_r4 mcount_r5 mcount_r6 mcount_r7 mcount_r8 mcount_res mpush_r0 mpush_res
structure Fx where
 p : Prg
 who : Int
 args : List Int
 d : Int
 s : Int
 o : Int
 argv : AV
structure Mach where
 pc : Int
 st : List Int
 regs : List Int
 notes : List Nt
 armed : Bool
def StkIs (S : St) (v : AV) (xs : List Int) : Prop := (v = .nils /\ xs = []) \/ ∃ st es, v = .sl 1000107000 st 1 0 xs.length /\ S.blk 1000107000 = some ⟨st, 1, es⟩ /\ xs.length <= es.length /\ es.take xs.length = xs.map iv
def RegIs (S : St) (v : AV) (xs : List Int) : Prop := (v = .nils /\ xs = []) \/ ∃ st, v = .sl 1000163000 st 1 0 xs.length /\ S.blk 1000163000 = some ⟨st, 1, xs.map iv⟩
def MS (F : Fx) (st : Nat) (m : Mach) (S : St) : Prop := ∃ r sk nt, S.blk 84026 = some ⟨st, 14, [.agg [.lst 2 (F.p.hs.map Hnd.av), .lst 4 (F.p.as.map Actr.av), .lst 3 (F.p.boot.map Nt.av), iv F.p.fuel, iv F.who, F.argv, r, .bool m.armed, iv F.d, iv F.s, iv F.o, sk, nt, iv m.pc]]⟩ /\
 RegIs S r m.regs /\ StkIs S sk m.st /\ AccIs S nt 110052 3 58 (m.notes.map Nt.av)
theorem MS.mk' {F : Fx} {st : Nat} {m : Mach} {t : Nat -> AV} {b : Nat -> Option Blk} {kk : Nat -> Option Tok} {c : Nat} {r sk nt : AV} (hb : b 84026 = some ⟨st, 14, [.agg [.lst 2 (F.p.hs.map Hnd.av), .lst 4 (F.p.as.map Actr.av), .lst 3 (F.p.boot.map Nt.av), iv F.p.fuel, iv F.who, F.argv, r, .bool m.armed, iv F.d, iv F.s, iv F.o, sk, nt, iv m.pc]]⟩)
 (hr : RegIs ⟨t, b, kk, c⟩ r m.regs) (hs : StkIs ⟨t, b, kk, c⟩ sk m.st) (hn : AccIs ⟨t, b, kk, c⟩ nt 110052 3 58 (m.notes.map Nt.av)) : MS F st m ⟨t, b, kk, c⟩ := ⟨r, sk, nt, hb, hr, hs, hn⟩
def Lm (n : Nat) : Bool := !(decide (84000 <= n) && decide (n < 84020) || decide (16000 <= n) && decide (n < 16100) || decide (45000 <= n) && decide (n < 45020) || decide (n = 1000016008))
theorem ne_of_Lm {n : Nat} (hn : Lm n = false) (i : Nat) (hi : Lm i = true) : (n = i) = False := eq_false (fun e => by rw [<- e, hn] at hi; cases hi)
theorem Fr.here {L : Nat -> Bool} {S : St} {b : Nat -> Option Blk} {k : Nat -> Option Tok} {c : Nat} (hb : ∀ n, L n = false -> b n = S.blk n) (hk : ∀ n, L n = false -> k n = S.tok n) (hc : S.clk <= c) : Fr L S ⟨S.t, b, k, c⟩ := ⟨rfl, hb, hk, hc⟩
theorem pop_v (F : Fx) (st : Nat) (m : Mach) (xs : List Int) (x : Int) (hx : m.st = xs ++ [x]) (hl : xs.length < 1000) {S : St} {k : AV -> St -> Prop} {u : Dep k} (h : MS F st m S)
   (hk : ∀ S', Fr Lm S S' -> MS F st { m with st := xs } S' -> k (iv x) S') : CallG Tryz.prog (.fn 238 []) [.ptr 84026 st 14 0 0] S k u := by
 obtain ⟨r, sk, nt, hb, hr, hs, hn⟩ := h
 rw [hx] at hs
 rcases hs with ⟨_, q⟩ | ⟨s1, es, q1, q2, q3, q4⟩
 . simp at q
 have hlen : (xs ++ [x]).length = xs.length + 1 := by simp
 rw [hlen] at q1 q3 q4
 have hget : es[xs.length]? = some (iv x) := by
   have := congrArg (fun l => l[xs.length]?) q4
   simp only [List.getElem?_take_of_lt (Nat.lt_succ_self xs.length)] at this
   rw [this]; simp
 have htk : es.take xs.length = xs.map iv := by
   have := congrArg (List.take xs.length) q4
   rw [List.take_take, Nat.min_eq_left (by omega)] at this
   rw [this]; simp
 have ws : IntKind.i64.wrap (xs.length : Int) = (xs.length : Int) := wrap_in _ (by omega) (by omega)
 refine callV mpop_get (by simp) (by simp) ?_
 unfold mpop_c
 simp [hb, q1, q2, ws, hget]
 refine hk _ (Fr.here (fun n hn => by first | rfl | (repeat rw [upd_out hn rfl])) (fun n hn => by first | rfl | (repeat rw [upd_out hn rfl])) (by omega)) (MS.mk' (upd_same _ _ _) (by simpa [RegIs] using hr) ?_ (by simpa [AccIs] using hn))
 exact .inr ⟨s1, es, rfl, by simp [q2], by simp only []; omega, htk⟩
theorem push_v (F : Fx) (st : Nat) (m : Mach) (ys : List Int) (hy : ys ≠ []) (hl : m.st.length + ys.length <= 1000) (nm s0 : Nat) {S : St} {k : AV -> St -> Prop} {u : Dep k} (h : MS F st m S)
   (hk : ∀ S', Fr Lm S S' -> MS F st { m with st := m.st ++ ys } S' -> k (.tup []) S') : CallG Tryz.prog (.fn 237 []) [.ptr 84026 st 14 0 0, .acc nm s0 1 (ys.map iv)] S k u := by
 obtain ⟨r, sk, nt, hb, hr, hs, hn⟩ := h
 have hyl : 0 < ys.length := List.length_pos_iff.2 hy
 refine callV mpush_get (by simp) (by simp) ?_
 unfold mpush_c
 rcases hs with ⟨q1, q⟩ | ⟨s1, es, q1, q2, q3, q4⟩
 . simp [hb, q1, hy, show ys.length * 8 <= 140737488355328 by omega]
   refine hk _ (Fr.here (fun n hn => by first | rfl | (repeat rw [upd_out hn rfl])) (fun n hn => by first | rfl | (repeat rw [upd_out hn rfl])) (by omega)) (MS.mk' (upd_same _ _ _) (by simpa [RegIs] using hr) ?_ (by simpa [AccIs] using hn))
   exact .inr ⟨_, ys.map iv, congrArg (AV.sl _ _ _ _) (by simp [q]), by simp, by simp [q], (List.take_of_length_le (by simp [q])).trans (by simp [q])⟩
 . simp [hb, q1, q2, q3, q4, show (m.st.length + ys.length) * 8 <= 140737488355328 by omega]
   refine hk _ (Fr.here (fun n hn => by first | rfl | (repeat rw [upd_out hn rfl])) (fun n hn => by first | rfl | (repeat rw [upd_out hn rfl])) (by omega)) (MS.mk' (upd_same _ _ _) (by simpa [RegIs] using hr) ?_ (by simpa [AccIs] using hn))
   exact .inr ⟨_, (m.st ++ ys).map iv, congrArg (AV.sl _ _ _ _) (by simp), by simp, by simp, List.take_of_length_le (by simp)⟩
theorem MS.to {F : Fx} {st : Nat} {m : Mach} {S S' : St} (h : MS F st m S) (b1 : S'.blk 84026 = S.blk 84026 := by first | rfl | simp) (b2 : S'.blk 1000163000 = S.blk 1000163000 := by first | rfl | simp) (b3 : S'.blk 1000107000 = S.blk 1000107000 := by first | rfl | simp)
   (hk : S'.tok 110052 = S.tok 110052 := by first | rfl | simp) : MS F st m S' := by
 obtain ⟨r, sk, nt, h1, h2, h3, h4⟩ := h
 refine ⟨r, sk, nt, by rw [b1]; exact h1, ?_, ?_, ?_⟩
 . unfold RegIs at *; rw [b2]; exact h2
 . unfold StkIs at *; rw [b3]; exact h3
 . unfold AccIs at *; rw [hk]; exact h4
theorem count1_v (F : Fx) (st : Nat) (m : Mach) (op : Int) (xs : List Int) (b : Int) (hx : m.st = xs ++ [b]) (hl : xs.length < 900) (h1 : (oneV op b).2 = true) {S : St} {k : AV -> St -> Prop} {u : Dep k} (h : MS F st m S)
   (hk : ∀ S', Fr Lm S S' -> MS F st { m with st := xs ++ [(oneV op b).1] } S' -> k (iv 0) S') : CallG Tryz.prog (.fn 241 []) [.ptr 84026 st 14 0 0, iv op] S k u := by
 refine callV mcount_get (by simp) (by simp) ?_
 unfold mcount_c
 simp
 refine pop_v F st m xs b hx (by omega) h.to ?_
 rintro S1 ⟨ht1, hb1, hk1, hc1⟩ hM1
 simp [ht1]
 refine call (sone_pc op b) (by simp) ?_
 simp [ht1, h1]
 refine push_v F st { m with st := xs } [(oneV op b).1] (by simp) (by simp; omega) _ _ hM1.to ?_
 rintro S2 ⟨ht2, hb2, hk2, hc2⟩ hM2
 simp [ht2]
 exact hk _ (Fr.here (fun n hn => by simp [hb2 n hn, hb1 n hn, ne_of_Lm hn, Lm]) (fun n hn => by simp [hk2 n hn, hk1 n hn, ne_of_Lm hn, Lm]) (by simp at hc1 hc2 ⊢; omega)) hM2.to
theorem count2_v (F : Fx) (st : Nat) (m : Mach) (op : Int) (xs : List Int) (a b : Int) (hx : m.st = xs ++ [a, b]) (hl : xs.length < 900) (h1 : (oneV op b).2 = false) {S : St} {k : AV -> St -> Prop} {u : Dep k} (h : MS F st m S)
   (hk : ∀ S', Fr Lm S S' -> MS F st { m with st := xs ++ [(twoV op a b).1] } S' -> k (iv (twoV op a b).2) S') : CallG Tryz.prog (.fn 241 []) [.ptr 84026 st 14 0 0, iv op] S k u := by
 refine callV mcount_get (by simp) (by simp) ?_
 unfold mcount_c
 simp
 refine pop_v F st m (xs ++ [a]) b (by simp [hx]) (by simp; omega) h.to ?_
 rintro S1 ⟨ht1, hb1, hk1, hc1⟩ hM1
 simp [ht1]
 refine call (sone_pc op b) (by simp) ?_
 simp [ht1, h1]
 refine pop_v F st { m with st := xs ++ [a] } xs a rfl (by omega) hM1.to ?_
 rintro S2 ⟨ht2, hb2, hk2, hc2⟩ hM2
 simp [ht2]
 refine call (stwo_pc op a b) (by simp) ?_
 simp [ht2]
 refine push_v F st { m with st := xs } [(twoV op a b).1] (by simp) (by simp; omega) _ _ hM2.to ?_
 rintro S3 ⟨ht3, hb3, hk3, hc3⟩ hM3
 simp [ht3]
 exact hk _ (Fr.here (fun n hn => by simp [hb3 n hn, hb2 n hn, hb1 n hn, ne_of_Lm hn, Lm]) (fun n hn => by simp [hk3 n hn, hk2 n hn, hk1 n hn, ne_of_Lm hn, Lm]) (by simp at hc1 hc2 hc3 ⊢; omega)) hM3.to
theorem pop_x {st s1 n : Nat} {x : Int} {es : List AV} {c0 c1 c2 c3 c4 c5 c6 c7 c8 c9 c10 nt c13 : AV} {S : St} {k : AV -> St -> Prop} {u : Dep k} (hn : n < 1000)
   (hb : S.blk 84026 = some ⟨st, 14, [.agg [c0, c1, c2, c3, c4, c5, c6, c7, c8, c9, c10, .sl 1000107000 s1 1 0 (n + 1), nt, c13]]⟩) (q2 : S.blk 1000107000 = some ⟨s1, 1, es⟩) (hl : n + 1 <= es.length) (hget : es[n]? = some (iv x))
   (hk : k (iv x) ⟨S.t, upd S.blk 84026 (some ⟨st, 14, [.agg [c0, c1, c2, c3, c4, c5, c6, c7, c8, c9, c10, .sl 1000107000 s1 1 0 n, nt, c13]]⟩), S.tok, S.clk + 1 + 13 + 15 + 2⟩) : CallG Tryz.prog (.fn 238 []) [.ptr 84026 st 14 0 0] S k u := by
 have ws : IntKind.i64.wrap (n : Int) = (n : Int) := wrap_in _ (by omega) (by omega)
 refine callV mpop_get (by simp) (by simp) ?_
 unfold mpop_c
 simp [hb, q2, ws, hget]
 exact hk
end Go.Gv

namespace Go.Gv
open Go.Proofs
def mreg_r0 : List AI := [oA 3 (.box 109003 2 (.t 1))]
def mreg_r1 : List AI := [oA 5 (.fld 1 (.t 3)), oA 6 (.load none (.t 5)), oA 7 (.mv (.t 0)), oA 8 (.nilck (.t 7)), oA 9 (.fld 6 (.t 8)), oA 10 (.fld 0 (.t 9)), oA 11 (.load none (.t 10)), oA 12 (.len (.t 11)), oA 13 (.ibin .lss (.t 6) (.t 12)), oA 4 (.mv (.t 13))]
def mreg_p1 : List (List Nat) := [[], [0], [], [2], [3, 2], [4, 3, 2], [5, 4, 3, 2], [6, 5, 4, 3, 2], [1, 7, 0, 6, 5, 4, 3, 2], [8, 0, 1, 2, 3, 4, 5, 6, 7]]
def mreg_r2 : List AI := [oA 18 (.fld 0 (.t 3)), oA 19 (.load none (.t 18)), oA 20 (.ibin .eql (.t 19) (.c (.int .i64 6))), oA 21 (.mv (.t 20)), oG 22 21 true (.mv (.t 4)), oA 23 (.pick (.t 21) (.t 22) (.c (.bool false))), oA 17 (.mv (.t 23))]
def mreg_r3 : List AI := [oA 24 (.mv (.t 0)), oA 25 (.nilck (.t 24)), oA 26 (.fld 6 (.t 25)), oA 27 (.fld 0 (.t 26)), oA 28 (.load none (.t 27)), oA 29 (.fld 1 (.t 3)), oA 30 (.load none (.t 29)), oA 31 (.mv (.t 0)), oC 32 (.c (.fn 238 [])) [(.t 31)], oA 33 (.idx 1 (.t 28) (.t 30)), oN (.store 1 (.t 33) (.t 32))]
def mreg_p3 : List (List Nat) := [[], [0], [1, 0], [2, 1, 0], [3, 2, 1, 0], [], [5], [], [7], [4, 6, 0, 1, 2, 3, 5, 7, 8], [9, 8, 0, 1, 2, 3, 4, 5, 6, 7]]
def mreg_r4 : List AI := [oA 35 (.fld 0 (.t 3)), oA 36 (.load none (.t 35)), oA 37 (.ibin .eql (.t 36) (.c (.int .i64 6))), oA 34 (.mv (.t 37))]
def mreg_r5 : List AI := [oA 38 (.mv (.t 0)), oC 39 (.c (.fn 238 [])) [(.t 38)]]
def mreg_r6 : List AI := [oA 41 (.mv (.t 4)), oA 40 (.mv (.t 41))]
def mreg_r7 : List AI := [oA 42 (.mv (.t 0)), oA 43 (.mv (.t 0)), oA 44 (.nilck (.t 43)), oA 45 (.fld 6 (.t 44)), oA 46 (.fld 0 (.t 45)), oA 47 (.load none (.t 46)), oA 48 (.fld 1 (.t 3)), oA 49 (.load none (.t 48)), oA 50 (.idx 1 (.t 47) (.t 49)), oA 51 (.load none (.t 50)), oA 52 (.bsl 109052 1 3 1 (.int .i64 0) [(0, (.t 51))]), oC 53 (.c (.fn 237 [])) [(.t 42), (.t 52)]]
def mreg_p7 : List (List Nat) := [[], [], [1], [2, 1], [3, 2, 1], [4, 3, 2, 1], [], [6], [5, 7, 4, 3, 2, 1, 6], [8, 5, 7, 4, 3, 2, 1, 6], [9, 8, 5, 7, 4, 3, 2, 1, 6], [0, 10, 9, 8, 5, 7, 4, 3, 2, 1, 6]]
def mreg_r8 : List AI := [oA 14 (.mv (.t 0)), oA 15 (.bsl 109015 1 3 1 (.int .i64 0) [(0, (.c (.int .i64 0)))]), oC 16 (.c (.fn 237 [])) [(.t 14), (.t 15)]]
def mreg_c : AC := (.seq (.reg mreg_r0) (.seq (.regd mreg_r1 mreg_p1) (.block 0 (.seq (.reg mreg_r2) (.cond (.t 17) (.regi mreg_r3 mreg_p3) (.seq (.reg mreg_r4) (.cond (.t 34) (.reg mreg_r5) (.seq (.reg mreg_r6) (.cond (.t 40) (.regi mreg_r7 mreg_p7) (.reg mreg_r8))))))))))
def mreg_res : List ARes := []
set_option maxRecDepth 100000 in
theorem mreg_get : getF Tryz.prog 239 109000 [(2000004, 1), (2000008, 1)] = some ("(*gavotte/vm.machine).register", 54, mreg_c, mreg_res) := by kernel_rfl
attribute [simp] mreg_r0 mreg_r1 mreg_p1 mreg_r2 mreg_r3 mreg_p3 mreg_r4 mreg_r5 mreg_r6 mreg_r7 mreg_p7 mreg_r8 mreg_res
theorem RegIs.len {S : St} {v : AV} {xs : List Int} (h : RegIs S v xs) : lenOf v = some xs.length := by
 rcases h with ⟨rfl, rfl⟩ | ⟨st, rfl, _⟩ <;> rfl
def loadV (m : Mach) (a : Int) : Int := if a < m.regs.length then (m.regs[a.toNat]?).getD 0 else 0
theorem regload_v (F : Fx) (st : Nat) (m : Mach) (i : Ins) (h6 : i.op ≠ 6) (ha : 0 <= i.a) (hr8 : m.regs.length <= 1000) (hl : m.st.length < 900) {S : St} {k : AV -> St -> Prop} {u : Dep k} (h : MS F st m S)
   (hk : ∀ S', Fr Lm S S' -> MS F st { m with st := m.st ++ [loadV m i.a] } S' -> k (.tup []) S') : CallG Tryz.prog (.fn 239 []) [.ptr 84026 st 14 0 0, i.av] S k u := by
 refine callV mreg_get (by simp) (by simp) ?_
 unfold mreg_c
 obtain ⟨r, sk, nt, hb, hr, hs, hn⟩ := h
 have hrl := hr.len
 simp [hb, hrl]
 by_cases h1 : i.a < m.regs.length
 . simp [h1, h6, hb, hrl]
   have hM : MS F st m S := ⟨r, sk, nt, hb, hr, hs, hn⟩
   rcases hr with ⟨rfl, q⟩ | ⟨s1, rfl, q2⟩
   . rw [q] at h1; simp at h1; omega
   have hat : i.a.toNat < m.regs.length := by omega
   have hget : m.regs[i.a.toNat]? = some m.regs[i.a.toNat] := List.getElem?_eq_getElem hat
   have hld : loadV m i.a = m.regs[i.a.toNat] := by unfold loadV; rw [if_pos h1, hget]; rfl
   refine regi_end (by simp) (by rfl) ?_
   simp [hb, q2, ha, hat]
   refine push_v F st m [m.regs[i.a.toNat]] (by simp) (by simp; omega) _ _ hM.to ?_
   rintro S1 ⟨ht1, hb1, hk1, hc1⟩ hM1
   simp [ht1]
   exact hk _ (Fr.here (fun n hn => by simp [hb1 n hn, ne_of_Lm hn, Lm]) (fun n hn => by simp [hk1 n hn, ne_of_Lm hn, Lm]) (by simp at hc1 ⊢; omega)) (by rw [hld]; exact hM1.to)
 . simp [h1, h6, hb, hrl]
   have hM : MS F st m S := ⟨r, sk, nt, hb, hr, hs, hn⟩
   have hld : loadV m i.a = 0 := by unfold loadV; rw [if_neg h1]
   refine push_v F st m [0] (by simp) (by simp; omega) _ _ hM.to ?_
   rintro S1 ⟨ht1, hb1, hk1, hc1⟩ hM1
   simp [ht1]
   exact hk _ (Fr.here (fun n hn => by simp [hb1 n hn, ne_of_Lm hn, Lm]) (fun n hn => by simp [hk1 n hn, ne_of_Lm hn, Lm]) (by simp at hc1 ⊢; omega)) (by rw [hld]; exact hM1.to)
theorem regstore_v (F : Fx) (st : Nat) (m : Mach) (i : Ins) (h6 : i.op = 6) (xs : List Int) (x : Int) (hx : m.st = xs ++ [x]) (ha : 0 <= i.a) (h1 : i.a < m.regs.length) (hr8 : m.regs.length <= 1000) (hl : xs.length < 900) {S : St} {k : AV -> St -> Prop} {u : Dep k} (h : MS F st m S)
   (hk : ∀ S', Fr Lm S S' -> MS F st { m with st := xs, regs := m.regs.set i.a.toNat x } S' -> k (.tup []) S') : CallG Tryz.prog (.fn 239 []) [.ptr 84026 st 14 0 0, i.av] S k u := by
 refine callV mreg_get (by simp) (by simp) ?_
 unfold mreg_c
 obtain ⟨r, sk, nt, hb, hr, hs, hn⟩ := h
 rcases hr with ⟨rfl, q⟩ | ⟨s1, rfl, q2⟩
 . rw [q] at h1; simp at h1; omega
 rw [hx] at hs
 rcases hs with ⟨_, q⟩ | ⟨s2, es, rfl, p2, p3, p4⟩
 . simp at q
 have hlen : (xs ++ [x]).length = xs.length + 1 := by simp
 rw [hlen] at hb p3 p4
 have hget : es[xs.length]? = some (iv x) := by
   have := congrArg (fun l => l[xs.length]?) p4
   simp only [List.getElem?_take_of_lt (Nat.lt_succ_self xs.length)] at this
   rw [this]; simp
 have htk : es.take xs.length = xs.map iv := by
   have := congrArg (List.take xs.length) p4
   rw [List.take_take, Nat.min_eq_left (by omega)] at this
   rw [this]; simp
 have hat : i.a.toNat < m.regs.length := by omega
 simp [hb, h1, h6]
 generalize hB : upd S.blk 109003 (some ⟨S.clk, 2, [.agg [iv 6, iv i.a]]⟩) = Bq
 generalize hc0 : S.clk + 1 + 10 + 7 + 11 = c0
 have hB1 : Bq 84026 = S.blk 84026 := by rw [<- hB]; simp
 have hB2 : Bq 1000107000 = S.blk 1000107000 := by rw [<- hB]; simp
 have hB3 : Bq 1000163000 = S.blk 1000163000 := by rw [<- hB]; simp
 have hB4 : Bq 109003 = some ⟨S.clk, 2, [.agg [iv 6, iv i.a]]⟩ := by rw [<- hB]; simp
 let tbl : List (Nat × AV) := [(24, .ptr 84026 st 14 0 0), (25, .ptr 84026 st 14 0 0), (26, .ptr 84026 st 14 0 6), (27, .ptr 84026 st 14 0 6), (28, .sl 1000163000 s1 1 0 m.regs.length), (29, .ptr 109003 S.clk 2 0 1), (30, iv i.a), (31, .ptr 84026 st 14 0 0), (32, iv x), (33, .ptr 1000163000 s1 1 i.a.toNat 0)]
 let M : Nat -> Option Blk := fun q => some ⟨st, 14, [.agg [.lst 2 (F.p.hs.map Hnd.av), .lst 4 (F.p.as.map Actr.av), .lst 3 (F.p.boot.map Nt.av), iv F.p.fuel, iv F.who, F.argv, .sl 1000163000 s1 1 0 m.regs.length, .bool m.armed, iv F.d, iv F.s, iv F.o, .sl 1000107000 s2 1 0 q, nt, iv m.pc]]⟩
 have hnd : (tbl.map (·.1)).Nodup := by simp [tbl]
 obtain ⟨I, hI⟩ : ∃ I : (Nat -> Bool) -> St -> Prop, ∀ D S', I D S' ↔ (SF tbl D S' /\ S'.t 0 = .ptr 84026 st 14 0 0 /\ S'.t 3 = .ptr 109003 S.clk 2 0 0 /\ c0 <= S'.clk /\ S'.tok = S.tok /\ S'.blk = (if D 10 = true then upd (upd Bq 84026 (M xs.length)) 1000163000 (some ⟨s1, 1, (m.regs.set i.a.toNat x).map iv⟩) else if D 8 = true then upd Bq 84026 (M xs.length) else Bq)) := ⟨_, fun _ _ => Iff.rfl⟩
 have stp : ∀ (D : Nat -> Bool) (S' : St) (j d : Nat) (v : AV) (op : AOp) (st' : Nat), tbl[j]? = some (d, v) -> j ≠ 8 -> j ≠ 10 -> d ≠ 0 -> d ≠ 3 -> I D S' -> ex S'.t S'.blk S'.tok st' op = some { v := v } -> stepV Tryz.prog st' ⟨some d, none, .op op⟩ S' (I (fun i => (i == j) || D i)) := by
   intro D S' j d v op st' hj n8 n10 d0 d3 hi he
   obtain ⟨hsf, h0, h3, hc, ht, hbk⟩ := (hI _ _).1 hi
   refine stepV_op _ he ((hI _ _).2 ⟨hsf.ins hnd hj (upd_same _ _ _) (fun y hy => upd_ne _ _ _ _ hy), (upd_ne _ _ _ _ (Ne.symm d0)).trans h0, (upd_ne _ _ _ _ (Ne.symm d3)).trans h3, hc, ht, hbk.trans ?_⟩)
   simp [show (10 == j) = false by simp; omega, show (8 == j) = false by simp; omega]
 show regI _ _ _ _ _ _
 refine ⟨I, (hI _ _).2 ⟨SF.start _ _, by simp, by simp, Nat.le_refl _, rfl, by simp⟩, ?_, ?_⟩
 . rintro D S' j ai hj hDj hpre hcl hi
   obtain ⟨hsf, h0, h3, hc, ht, hbk⟩ := (hI _ _).1 hi
   have hM4 : D 4 = false -> ∃ sk, S'.blk 84026 = some ⟨st, 14, [.agg [.lst 2 (F.p.hs.map Hnd.av), .lst 4 (F.p.as.map Actr.av), .lst 3 (F.p.boot.map Nt.av), iv F.p.fuel, iv F.who, F.argv, .sl 1000163000 s1 1 0 m.regs.length, .bool m.armed, iv F.d, iv F.s, iv F.o, sk, nt, iv m.pc]]⟩ := by
     intro h4
     have d10 : D 10 = false := by
       cases hx : D 10 with
       | false => rfl
       | true => have := hcl 10 hx 4 (by simp); rw [h4] at this; cases this
     rw [hbk]
     by_cases d8 : D 8 = true
     . exact ⟨_, by simp [d10, d8, M]; rfl⟩
     . exact ⟨_, by simp [d10, d8, hB1, hb]; rfl⟩
   match j, hj, hDj, hpre with
   | 0, hj, hDj, hpre =>
     simp at hj; subst hj
     exact stp D S' 0 24 _ _ _ rfl (by simp) (by simp) (by simp) (by simp) hi (by simp [h0])
   | 1, hj, hDj, hpre =>
     simp at hj hpre; subst hj
     exact stp D S' 1 25 _ _ _ rfl (by simp) (by simp) (by simp) (by simp) hi (by simp [hsf 0 24 _ rfl hpre])
   | 2, hj, hDj, hpre =>
     simp at hj hpre; subst hj
     exact stp D S' 2 26 _ _ _ rfl (by simp) (by simp) (by simp) (by simp) hi (by simp [hsf 1 25 _ rfl hpre.1])
   | 3, hj, hDj, hpre =>
     simp at hj hpre; subst hj
     exact stp D S' 3 27 _ _ _ rfl (by simp) (by simp) (by simp) (by simp) hi (by simp [hsf 2 26 _ rfl hpre.1])
   | 4, hj, hDj, hpre =>
     simp at hj hpre; subst hj
     obtain ⟨sk, hsk⟩ := hM4 hDj
     exact stp D S' 4 28 _ _ _ rfl (by simp) (by simp) (by simp) (by simp) hi (by simp [hsf 3 27 _ rfl hpre.1, hsk])
   | 5, hj, hDj, hpre =>
     simp at hj hpre; subst hj
     exact stp D S' 5 29 _ _ _ rfl (by simp) (by simp) (by simp) (by simp) hi (by simp [h3])
   | 6, hj, hDj, hpre =>
     simp at hj hpre; subst hj
     have h9 : S'.blk 109003 = some ⟨S.clk, 2, [.agg [iv 6, iv i.a]]⟩ := by
       rw [hbk]; split <;> (try split) <;> simp [hB4]
     exact stp D S' 6 30 _ _ _ rfl (by simp) (by simp) (by simp) (by simp) hi (by simp [hsf 5 29 _ rfl hpre, h9])
   | 7, hj, hDj, hpre =>
     simp at hj hpre; subst hj
     exact stp D S' 7 31 _ _ _ rfl (by simp) (by simp) (by simp) (by simp) hi (by simp [h0])
   | 8, hj, hDj, hpre =>
     simp at hj hpre; subst hj
     have d10 : D 10 = false := by
       cases hx : D 10 with
       | false => rfl
       | true => have := hcl 10 hx 8 (by simp); rw [hDj] at this; cases this
     rw [if_neg (by rw [d10]; simp), if_neg (by rw [hDj]; simp)] at hbk
     refine stepV_call ?_
     simp [hsf 7 31 _ rfl hpre]
     refine pop_x (by omega) (by rw [hbk, hB1]; exact hb) (by rw [hbk, hB2]; exact p2) p3 hget ?_
     refine (hI _ _).2 ⟨hsf.ins hnd (j := 8) (d := 32) (v := iv x) rfl (by simp) (fun y hy => by simp [hy]), by simp [h0], by simp [h3], by simp; omega, by simp [ht], ?_⟩
     simp [d10, hbk, M]
   | 9, hj, hDj, hpre =>
     simp at hj hpre; subst hj
     exact stp D S' 9 33 _ _ _ rfl (by simp) (by simp) (by simp) (by simp) hi (by simp [hsf 4 28 _ rfl hpre.1, hsf 6 30 _ rfl hpre.2.1, ha, hat])
   | 10, hj, hDj, hpre =>
     simp at hj hpre; subst hj
     have d8 : D 8 = true := hpre.2.1
     rw [if_neg (by rw [hDj]; simp), if_pos d8] at hbk
     have hr' : S'.blk 1000163000 = some ⟨s1, 1, m.regs.map iv⟩ := by rw [hbk]; simp [hB3, q2]
     refine stepV_op { v := .junk, wb := [(1000163000, some ⟨s1, 1, (m.regs.set i.a.toNat x).map iv⟩)] } (by simp [hsf 9 33 _ rfl hpre.1, hsf 8 32 _ rfl hpre.2.1, hr', hat]) ?_
     refine (hI _ _).2 ⟨hsf.keep (j := 10) rfl rfl, h0, h3, hc, ht, ?_⟩
     simp [St.app, appB, hbk]
   | j + 11, hj, hDj, hpre => simp at hj
 . rintro D S' hD hi
   obtain ⟨hsf, h0, h3, hc, ht, hbk⟩ := (hI _ _).1 hi
   rw [if_pos (hD 10 (by simp))] at hbk
   simp
   have m1 : S'.blk 84026 = M xs.length := by rw [hbk]; simp
   have m2 : S'.blk 1000163000 = some ⟨s1, 1, (m.regs.set i.a.toNat x).map iv⟩ := by rw [hbk]; simp
   have m3 : S'.blk 1000107000 = some ⟨s2, 1, es⟩ := by rw [hbk]; simp [hB2, p2]
   refine hk _ ⟨rfl, fun n hn => ?_, fun n hn => by rw [ht], by simp only []; omega⟩ (MS.mk' m1 (.inr ⟨s1, congrArg (AV.sl _ _ _ _) (by simp), m2⟩) (.inr ⟨s2, es, rfl, m3, by simp only []; omega, htk⟩) (by simpa [AccIs, ht] using hn))
   rw [hbk, <- hB]
   simp [ne_of_Lm hn, Lm]
end Go.Gv

namespace Go.Gv
open Go.Proofs
def cloneX_r0 : List AI := [oA 2 (.mv (.c .nils))]
def cloneX_r1 : List AI := [oA 3 (.mv (.t 0)), ⟨(some 4), none, (.nq 0 false (.t 3))⟩]
def cloneX_r2 : List AI := [oA 2 (.mv (.c .nils))]
def cloneX_r3 : List AI := [oA 5 (.bsl 63005 1 3 0 (.int .i64 0) []), oA 6 (.mv (.t 0)), oA 7 (.app 63007 1 3 8 (.t 5) (.t 6)), oA 2 (.mv (.t 7))]
def cloneX_c : AC := (.seq (.reg cloneX_r0) (.seq (.seq (.reg cloneX_r1) (.cond (.t 4) (.seq (.reg cloneX_r2) .ret) .skip)) (.seq (.reg cloneX_r3) .ret)))
def cloneX_res : List ARes := [(.tmp 2)]
set_option maxRecDepth 100000 in
theorem cloneX_get : getF Tryz.prog 91 63000 [] = some ("slices.Clone[[]int,int]", 8, cloneX_c, cloneX_res) := by kernel_rfl
def msend_r0 : List AI := [oA 4 (.mv (.c (.int .i64 0)))]
def msend_r1 : List AI := [oA 7 (.mv (.t 0)), oC 8 (.c (.fn 238 [])) [(.t 7)], oA 5 (.mv (.t 8))]
def msend_r2 : List AI := [oA 9 (.mv (.t 5)), oA 10 (.ibin .lss (.t 9) (.c (.int .i64 0))), oA 11 (.mv (.t 10)), oG 12 11 false (.mv (.t 5)), oG 13 11 false (.mv (.t 0)), oG 14 11 false (.nilck (.t 13)), oG 15 11 false (.fld 0 (.t 14)), oG 16 11 false (.fld 1 (.t 15)), oG 17 11 false (.load none (.t 16)), oG 18 11 false (.len (.t 17)), oG 19 11 false (.ibin .geq (.t 12) (.t 18)), oA 20 (.pick (.t 11) (.c (.bool true)) (.t 19))]
def msend_r3 : List AI := [oA 4 (.mv (.c (.int .i64 4)))]
def msend_r4 : List AI := [oA 21 (.mv (.t 0)), oA 22 (.nilck (.t 21)), oA 23 (.fld 11 (.t 22)), oA 24 (.load none (.t 23)), oA 25 (.len (.t 24)), oA 26 (.mv (.t 0)), oA 27 (.nilck (.t 26)), oA 28 (.fld 0 (.t 27)), oA 29 (.fld 0 (.t 28)), oA 30 (.load none (.t 29)), oA 31 (.mv (.t 1)), oA 32 (.idx 2 (.t 30) (.t 31)), oA 33 (.fld 0 (.t 32)), oA 34 (.load none (.t 33)), oA 35 (.ibin .sub (.t 25) (.t 34)), oA 6 (.mv (.t 35))]
def msend_p4 : List (List Nat) := [[], [0], [1, 0], [2, 1, 0], [3, 2, 1, 0], [], [5], [6, 5], [7, 6, 5], [8, 7, 6, 5], [], [9, 10, 8, 7, 6, 5], [11, 9, 10, 8, 7, 6, 5], [12, 11, 9, 10, 8, 7, 6, 5], [4, 13, 3, 2, 1, 0, 12, 11, 9, 10, 8, 7, 6, 5], [14, 0, 1, 2, 3, 4, 5, 6, 7, 8, 9, 10, 11, 12, 13]]
def msend_r5 : List AI := [oA 36 (.mv (.t 0)), oA 37 (.mv (.t 0)), oA 38 (.nilck (.t 37)), oA 39 (.fld 12 (.t 38)), oA 40 (.load none (.t 39)), oA 41 (.mv (.t 5)), oA 42 (.mv (.t 1)), oA 43 (.mv (.t 0)), oA 44 (.nilck (.t 43)), oA 45 (.fld 11 (.t 44)), oA 46 (.load none (.t 45)), oA 47 (.mv (.t 6)), oA 48 (.slice (some 1) (.t 46) (some (.t 47)) none), oC 49 (.c (.fn 91 [])) [(.t 48)], oA 50 (.build [(.int .i64 0), (.int .i64 0), .nils] [(0, (1, (.t 41))), (1, (1, (.t 42))), (2, (1, (.t 49)))]), oA 51 (.bsl 110051 3 58 1 (.agg [(.int .i64 0), (.int .i64 0), .nils]) [(0, (.t 50))]), oA 52 (.app 110052 3 58 40 (.t 40) (.t 51)), oA 53 (.nilck (.t 36)), oA 54 (.fld 12 (.t 53)), oN (.store 1 (.t 54) (.t 52))]
def msend_p5 : List (List Nat) := [[], [], [1], [2, 1], [3, 2, 1], [], [], [], [7], [8, 7], [9, 8, 7], [], [10, 11, 9, 8, 7], [12, 10, 11, 9, 8, 7], [5, 6, 13, 12, 10, 11, 9, 8, 7], [14, 5, 6, 13, 12, 10, 11, 9, 8, 7], [4, 15, 13, 3, 2, 1, 14, 5, 6, 12, 10, 11, 9, 8, 7], [0, 1, 2, 3, 4, 5, 6, 7, 8, 9, 10, 11, 12, 13, 14, 15, 16], [17, 0, 1, 2, 3, 4, 5, 6, 7, 8, 9, 10, 11, 12, 13, 14, 15, 16], [18, 16, 0, 1, 2, 3, 4, 5, 6, 7, 8, 9, 10, 11, 12, 13, 14, 15, 17]]
def msend_r6 : List AI := [oA 55 (.mv (.t 0)), oA 56 (.mv (.t 0)), oA 57 (.nilck (.t 56)), oA 58 (.fld 11 (.t 57)), oA 59 (.load none (.t 58)), oA 60 (.mv (.t 6)), oA 61 (.slice (some 1) (.t 59) none (some (.t 60))), oA 62 (.nilck (.t 55)), oA 63 (.fld 11 (.t 62)), oN (.store 1 (.t 63) (.t 61))]
def msend_r7 : List AI := [oA 4 (.mv (.c (.int .i64 0)))]
def msend_c : AC := (.seq (.reg msend_r0) (.seq (.reg msend_r1) (.seq (.seq (.reg msend_r2) (.cond (.t 20) (.seq (.reg msend_r3) .ret) .skip)) (.seq (.regd msend_r4 msend_p4) (.seq (.regi msend_r5 msend_p5) (.seq (.reg msend_r6) (.seq (.reg msend_r7) .ret)))))))
def msend_res : List ARes := [(.tmp 4)]
set_option maxRecDepth 100000 in
theorem msend_get : getF Tryz.prog 240 110000 [(2000005, 1)] = some ("(*gavotte/vm.machine).send", 64, msend_c, msend_res) := by kernel_rfl
attribute [simp] cloneX_r0 cloneX_r1 cloneX_r2 cloneX_r3 cloneX_res msend_r0 msend_r1 msend_r2 msend_r3 msend_r4 msend_p4 msend_r5 msend_p5 msend_r6 msend_r7 msend_res
def accV : AV -> AV
 | .acc _ _ s xs => .lst s xs
 | v => v
def nilV : AV -> AV
 | .nils => .lst 1 []
 | v => v
theorem Wkh.accV {c c' : Nat} (hc : c <= c') {h h' : Hp} (hb : ∀ n b, h'.blk n = some b -> h.blk n = some b) (ht : ∀ n t, h'.tok n = some t -> h.tok n = some t) : Wkh c c' h h' Go.Gv.accV :=
 ⟨hc, fun E B w H hu => ⟨E, .refl E, H.sub hb ht, fun _ _ _ => rfl, fun _ h => h, fun x v hr => by
   cases x with
   | acc nm st s xs => cases hr with | acc _ _ _ _ _ _ _ hl => exact hl
   | _ => exact hr⟩⟩
theorem Wkh.nilV {c c' : Nat} (hc : c <= c') {h h' : Hp} (hb : ∀ n b, h'.blk n = some b -> h.blk n = some b) (ht : ∀ n t, h'.tok n = some t -> h.tok n = some t) : Wkh c c' h h' Go.Gv.nilV :=
 ⟨hc, fun E B w H hu => ⟨E, .refl E, H.sub hb ht, fun _ _ _ => rfl, fun _ h => h, fun x v hr => by
   cases x with
   | nils => rw [hr.nils_inv]; exact .lst0 _ _ _
   | _ => exact hr⟩⟩
theorem clone_x (nm st off len : Nat) (ys : List Int) {S : St} {k : AV -> St -> Prop} {u : Dep k} (hl : listOf S.blk 1 (.sl nm st 1 off len) = some (ys.map iv)) (hn : ys.length <= 1000)
   (hk : ∀ c, S.clk <= c -> k (.lst 1 (ys.map iv)) ⟨S.t, S.blk, upd (upd S.tok 63005 none) 63007 none, c⟩) : CallG Tryz.prog (.fn 91 []) [.sl nm st 1 off len] S k u := by
 refine CallP.told (k' := fun r S' => (r = .nils /\ ys = [] /\ S'.t = S.t /\ S'.blk = S.blk /\ S'.tok = S.tok /\ S.clk <= S'.clk) \/ ∃ s', r = .acc 63007 s' 1 (ys.map iv) /\ S'.t = S.t /\ S'.blk = S.blk /\ (∀ n, n ≠ 63007 -> n ≠ 63005 -> S'.tok n = S.tok n) /\ S.clk <= S'.clk) ?_ ?_
 . show CallG Tryz.prog _ _ S _ .mk
   refine callV cloneX_get (by simp) (by simp) ?_
   unfold cloneX_c
   by_cases h0 : 0 < len
   . simp [h0, hl, show ys.length * 8 <= 140737488355328 by omega]
     refine ⟨?_, by omega⟩
     intro n h1 h2
     simp [upd, h1, h2]
   . obtain rfl : len = 0 := by omega
     have hy : ys = [] := by
       unfold listOf at hl
       simp [Option.bind_eq_some_iff] at hl
       obtain ⟨_, _, _, q⟩ := hl
       simpa using q
     subst hy
     simp
     refine opG_none _ _ ?_ ?_
     . simp [hl]
       try omega
     . simp [hl]
       refine ⟨fun n h1 h2 => ?_, by omega⟩
       simp [upd, h1, h2]
 . rintro r S' (⟨rfl, rfl, e1, e2, e3, e4⟩ | ⟨s', rfl, e1, e2, e3, e4⟩)
   . refine ⟨⟨S.t, S.blk, upd (upd S.tok 63005 none) 63007 none, S'.clk⟩, nilV, Wkh.nilV (Nat.le_refl _) ?_ ?_, ?_, hk S'.clk e4⟩
     . intro n b hb; simpa [St.h, e2] using hb
     . intro n t ht
       simp only [St.h, upd] at ht ⊢
       rw [e3]
       split at ht
       . cases ht
       . split at ht
         . cases ht
         . exact ht
     . exact e1.symm
   . refine ⟨⟨S.t, S.blk, upd (upd S.tok 63005 none) 63007 none, S'.clk⟩, accV, Wkh.accV (Nat.le_refl _) ?_ ?_, ?_, hk S'.clk e4⟩
     . intro n b hb; simpa [St.h, e2] using hb
     . intro n t ht
       simp only [St.h, upd] at ht ⊢
       split at ht
       . cases ht
       . split at ht
         . cases ht
         . rw [e3 n ‹_› ‹_›]; exact ht
     . exact e1.symm
theorem send_v (F : Fx) (st : Nat) (m : Mach) (hd : Int) (xs bs : List Int) (to : Int) (hx : m.st = xs ++ bs ++ [to]) (h0 : 0 <= hd) (x : Hnd) (hh : F.p.hs[hd.toNat]? = some x) (hargs : x.args = bs.length) (hl : (xs ++ bs).length < 900) (hnl : m.notes.length < 1000) {S : St} {k : AV -> St -> Prop} {u : Dep k} (h : MS F st m S)
   (hk1 : (to < 0 \/ to >= F.p.as.length) -> ∀ S', Fr Lm S S' -> MS F st { m with st := xs ++ bs } S' -> k (iv 4) S')
   (hk2 : ¬ (to < 0 \/ to >= F.p.as.length) -> ∀ S', Fr Lm S S' -> MS F st { m with st := xs, notes := m.notes ++ [⟨to, hd, bs⟩] } S' -> k (iv 0) S') : CallG Tryz.prog (.fn 240 []) [.ptr 84026 st 14 0 0, iv hd] S k u := by
 refine callV msend_get (by simp) (by simp) ?_
 unfold msend_c
 simp
 by_cases hlost : to < 0 \/ to >= F.p.as.length
 . refine pop_v F st m (xs ++ bs) to (by rw [hx]) (by omega) h.to ?_
   rintro S1 ⟨ht1, hb1, hk1', hc1⟩ hM1
   obtain ⟨r, sk, nt, hb, hr, hs, hn⟩ := hM1
   by_cases hneg : to < 0
   . simp [ht1, hneg]
     exact hk1 hlost _ (Fr.here (fun n hn => by simp [hb1 n hn, ne_of_Lm hn, Lm]) (fun n hn => by simp [hk1' n hn, ne_of_Lm hn, Lm]) (by simp at hc1 ⊢; omega)) (MS.to ⟨r, sk, nt, hb, hr, hs, hn⟩)
   . simp [ht1, hneg, hb, show (F.p.as.length : Int) <= to by omega]
     exact hk1 hlost _ (Fr.here (fun n hn => by simp [hb1 n hn, ne_of_Lm hn, Lm]) (fun n hn => by simp [hk1' n hn, ne_of_Lm hn, Lm]) (by simp at hc1 ⊢; omega)) (MS.to ⟨r, sk, nt, hb, hr, hs, hn⟩)
 obtain ⟨r, sk, nt, hb, hr, hs, hn⟩ := h
 rw [hx] at hs
 rcases hs with ⟨_, q⟩ | ⟨s2, es, rfl, p2, p3, p4⟩
 . simp at q
 have hlen : (xs ++ bs ++ [to]).length = (xs ++ bs).length + 1 := by rw [List.length_append]; rfl
 rw [hlen] at hb p3 p4
 have hget : es[(xs ++ bs).length]? = some (iv to) := by
   have := congrArg (fun l => l[(xs ++ bs).length]?) p4
   simp only [List.getElem?_take_of_lt (Nat.lt_succ_self (xs ++ bs).length)] at this
   rw [this, List.map_append, List.getElem?_append_right (by simp)]; simp
 have htk : es.take (xs ++ bs).length = (xs ++ bs).map iv := by
   have := congrArg (List.take (xs ++ bs).length) p4
   rw [List.take_take, Nat.min_eq_left (by omega)] at this
   rw [this, List.map_append, List.take_left' (by simp)]
 refine pop_x (by omega) hb p2 p3 hget ?_
 have hxb : (xs ++ bs).length = xs.length + bs.length := List.length_append
 have hw : IntKind.i64.wrap (((xs ++ bs).length : Int) - (bs.length : Int)) = (xs.length : Int) := by rw [wrap_in _ (by omega) (by omega)]; omega
 have hj : hd.toNat < F.p.hs.length := (List.getElem?_eq_some_iff.1 hh).1
 have hx' : F.p.hs[hd.toNat] = x := (List.getElem?_eq_some_iff.1 hh).2
 generalize hNL : (xs ++ bs).length = NL at *
 simp [show ¬ to < 0 by omega, show ¬ (F.p.as.length : Int) <= to by omega, h0, hj, hx', hargs, hw]
 generalize hc0 : S.clk + 1 + 3 + 1 + 13 + 15 + 2 + 12 + 16 = c0
 generalize hB : upd S.blk 84026 (some ⟨st, 14, [.agg [.lst 2 (F.p.hs.map Hnd.av), .lst 4 (F.p.as.map Actr.av), .lst 3 (F.p.boot.map Nt.av), iv F.p.fuel, iv F.who, F.argv, r, .bool m.armed, iv F.d, iv F.s, iv F.o, .sl 1000107000 s2 1 0 NL, nt, iv m.pc]]⟩) = Bq
 have hB1 : Bq 84026 = some ⟨st, 14, [.agg [.lst 2 (F.p.hs.map Hnd.av), .lst 4 (F.p.as.map Actr.av), .lst 3 (F.p.boot.map Nt.av), iv F.p.fuel, iv F.who, F.argv, r, .bool m.armed, iv F.d, iv F.s, iv F.o, .sl 1000107000 s2 1 0 NL, nt, iv m.pc]]⟩ := by rw [<- hB]; simp
 have hB2 : Bq 1000107000 = some ⟨s2, 1, es⟩ := by rw [<- hB]; simp [p2]
 have hB3 : Bq 1000163000 = S.blk 1000163000 := by rw [<- hB]; simp
 have hBf : ∀ n, Lm n = false -> Bq n = S.blk n := by intro n hn; rw [<- hB]; simp [ne_of_Lm hn, Lm]
 have hbs : xs.length + bs.length = NL := by omega
 have hcl : listOf Bq 1 (.sl 1000107000 s2 1 xs.length bs.length) = some (bs.map iv) := by
   have e1 : (es.drop xs.length).take bs.length = bs.map iv := by
     have := congrArg (List.drop xs.length) htk
     rw [List.drop_take, List.map_append, List.drop_left' (by simp), show NL - xs.length = bs.length by omega] at this
     exact this
   simp [listOf, hB2, getB, e1, show xs.length + bs.length <= es.length by omega]
 let nv : AV := .agg [iv to, iv hd, .lst 1 (bs.map iv)]
 let n16 : AV := .acc 110052 (c0 + 16) 3 (m.notes.map Nt.av ++ [nv])
 let tbl : List (Nat × AV) := [(36, .ptr 84026 st 14 0 0), (37, .ptr 84026 st 14 0 0), (38, .ptr 84026 st 14 0 0), (39, .ptr 84026 st 14 0 12), (40, nt), (41, iv to), (42, iv hd), (43, .ptr 84026 st 14 0 0), (44, .ptr 84026 st 14 0 0), (45, .ptr 84026 st 14 0 11), (46, .sl 1000107000 s2 1 0 NL), (47, iv xs.length),
   (48, .sl 1000107000 s2 1 xs.length bs.length), (49, .lst 1 (bs.map iv)), (50, nv), (51, .acc 110051 (c0 + 15) 3 [nv]), (52, n16), (53, .ptr 84026 st 14 0 0), (54, .ptr 84026 st 14 0 12)]
 let M' : Option Blk := some ⟨st, 14, [.agg [.lst 2 (F.p.hs.map Hnd.av), .lst 4 (F.p.as.map Actr.av), .lst 3 (F.p.boot.map Nt.av), iv F.p.fuel, iv F.who, F.argv, r, .bool m.armed, iv F.d, iv F.s, iv F.o, .sl 1000107000 s2 1 0 NL, n16, iv m.pc]]⟩
 have hnd : (tbl.map (·.1)).Nodup := by simp [tbl]
 obtain ⟨I, hI⟩ : ∃ I : (Nat -> Bool) -> St -> Prop, ∀ D S', I D S' ↔ (SF tbl D S' /\ S'.t 0 = .ptr 84026 st 14 0 0 /\ S'.t 1 = iv hd /\ S'.t 5 = iv to /\ S'.t 6 = iv xs.length /\ c0 + 20 <= S'.clk /\ S'.blk = (if D 19 = true then upd Bq 84026 M' else Bq) /\
   (∀ n, Lm n = false -> S'.tok n = S.tok n) /\ S'.tok 110052 = (if D 16 = true then some ⟨c0 + 16, 3, 58⟩ else S.tok 110052)) := ⟨_, fun _ _ => Iff.rfl⟩
 have stp : ∀ (D : Nat -> Bool) (S' : St) (j d : Nat) (v : AV) (op : AOp) (st' : Nat) (wt : List (Nat × Option Tok)), tbl[j]? = some (d, v) -> j ≠ 16 -> j ≠ 19 -> 30 < d -> I D S' -> ex S'.t S'.blk S'.tok st' op = some { v := v, wt := wt } -> (wt = [] \/ ∃ t, wt = [(110051, t)]) -> stepV Tryz.prog st' ⟨some d, none, .op op⟩ S' (I (fun i => (i == j) || D i)) := by
   intro D S' j d v op st' wt hj n16 n19 hd30 hi he hwt
   obtain ⟨hsf, g0, g1, g5, g6, hc, hbk, htf, htn⟩ := (hI _ _).1 hi
   refine stepV_op _ he ((hI _ _).2 ⟨hsf.ins hnd hj (upd_same _ _ _) (fun y hy => upd_ne _ _ _ _ hy), (upd_ne _ _ _ _ (by omega)).trans g0, (upd_ne _ _ _ _ (by omega)).trans g1, (upd_ne _ _ _ _ (by omega)).trans g5, (upd_ne _ _ _ _ (by omega)).trans g6, hc, hbk.trans ?_, ?_, ?_⟩)
   . simp [show (19 == j) = false by simp; omega]
   . intro n hn
     rcases hwt with rfl | ⟨t, rfl⟩
     . exact htf n hn
     . show upd S'.tok 110051 t n = _
       rw [upd_out hn rfl]; exact htf n hn
   . simp only [show (16 == j) = false by simp; omega, Bool.false_or]
     rcases hwt with rfl | ⟨t, rfl⟩
     . exact htn
     . show upd S'.tok 110051 t 110052 = _
       rw [upd_ne _ _ _ _ (by simp)]; exact htn
 show regI _ _ _ _ _ _
 refine ⟨I, (hI _ _).2 ⟨SF.start _ _, by simp, by simp, by simp, by simp, Nat.le_refl _, by simp, fun n hn => rfl, by simp⟩, ?_, ?_⟩
 . rintro D S' j ai hj hDj hpre hcl' hi
   obtain ⟨hsf, g0, g1, g5, g6, hc, hbk, htf, htn⟩ := (hI _ _).1 hi
   have hbk0 : D j = false -> j <= 19 -> S'.blk = Bq := by
     intro _ hle
     have d19 : D 19 = false := by
       cases hx : D 19 with
       | false => rfl
       | true =>
         by_cases e : j = 19
         . subst e; rw [hDj] at hx; cases hx
         . have := hcl' 19 hx j (by simp; omega); rw [hDj] at this; cases this
     rw [hbk, if_neg (by rw [d19]; simp)]
   match j, hj, hDj, hpre with
   | 0, hj, hDj, hpre =>
     simp at hj; subst hj
     exact stp D S' 0 36 _ _ _ [] rfl (by simp) (by simp) (by simp) hi (by simp [g0]) (.inl rfl)
   | 1, hj, hDj, hpre =>
     simp at hj; subst hj
     exact stp D S' 1 37 _ _ _ [] rfl (by simp) (by simp) (by simp) hi (by simp [g0]) (.inl rfl)
   | 2, hj, hDj, hpre =>
     simp at hj hpre; subst hj
     exact stp D S' 2 38 _ _ _ [] rfl (by simp) (by simp) (by simp) hi (by simp [hsf 1 37 _ rfl hpre]) (.inl rfl)
   | 3, hj, hDj, hpre =>
     simp at hj hpre; subst hj
     exact stp D S' 3 39 _ _ _ [] rfl (by simp) (by simp) (by simp) hi (by simp [hsf 2 38 _ rfl hpre.1]) (.inl rfl)
   | 4, hj, hDj, hpre =>
     simp at hj hpre; subst hj
     have hq := hbk0 hDj (by omega)
     exact stp D S' 4 40 _ _ _ [] rfl (by simp) (by simp) (by simp) hi (by simp [hsf 3 39 _ rfl hpre.1, hq, hB1]) (.inl rfl)
   | 5, hj, hDj, hpre =>
     simp at hj; subst hj
     exact stp D S' 5 41 _ _ _ [] rfl (by simp) (by simp) (by simp) hi (by simp [g5]) (.inl rfl)
   | 6, hj, hDj, hpre =>
     simp at hj; subst hj
     exact stp D S' 6 42 _ _ _ [] rfl (by simp) (by simp) (by simp) hi (by simp [g1]) (.inl rfl)
   | 7, hj, hDj, hpre =>
     simp at hj; subst hj
     exact stp D S' 7 43 _ _ _ [] rfl (by simp) (by simp) (by simp) hi (by simp [g0]) (.inl rfl)
   | 8, hj, hDj, hpre =>
     simp at hj hpre; subst hj
     exact stp D S' 8 44 _ _ _ [] rfl (by simp) (by simp) (by simp) hi (by simp [hsf 7 43 _ rfl hpre]) (.inl rfl)
   | 9, hj, hDj, hpre =>
     simp at hj hpre; subst hj
     exact stp D S' 9 45 _ _ _ [] rfl (by simp) (by simp) (by simp) hi (by simp [hsf 8 44 _ rfl hpre.1]) (.inl rfl)
   | 10, hj, hDj, hpre =>
     simp at hj hpre; subst hj
     have hq := hbk0 hDj (by omega)
     exact stp D S' 10 46 _ _ _ [] rfl (by simp) (by simp) (by simp) hi (by simp [hsf 9 45 _ rfl hpre.1, hq, hB1]) (.inl rfl)
   | 11, hj, hDj, hpre =>
     simp at hj; subst hj
     exact stp D S' 11 47 _ _ _ [] rfl (by simp) (by simp) (by simp) hi (by simp [g6]) (.inl rfl)
   | 12, hj, hDj, hpre =>
     simp at hj hpre; subst hj
     exact stp D S' 12 48 _ _ _ [] rfl (by simp) (by simp) (by simp) hi (by simp [hsf 10 46 _ rfl hpre.1, hsf 11 47 _ rfl hpre.2.1, show xs.length <= NL by omega]; omega) (.inl rfl)
   | 13, hj, hDj, hpre =>
     simp at hj hpre; subst hj
     have hq := hbk0 hDj (by omega)
     refine stepV_call ?_
     simp [hsf 12 48 _ rfl hpre.1]
     refine clone_x _ _ _ _ bs (by rw [hq]; exact hcl) (by omega) ?_
     intro c hc'
     refine (hI _ _).2 ⟨hsf.ins hnd (j := 13) (d := 49) (v := .lst 1 (bs.map iv)) rfl (by simp) (fun y hy => by simp [hy]), by simp [g0], by simp [g1], by simp [g5], by simp [g6], by simp; omega, by simpa using hbk, ?_, by simpa using htn⟩
     intro n hn
     simp [ne_of_Lm hn, Lm]
     exact htf n hn
   | 14, hj, hDj, hpre =>
     simp at hj hpre; subst hj
     exact stp D S' 14 50 _ _ _ [] rfl (by simp) (by simp) (by simp) hi (by simp [hsf 5 41 _ rfl hpre.1, hsf 6 42 _ rfl hpre.2.1, hsf 13 49 _ rfl hpre.2.2.1, nv]) (.inl rfl)
   | 15, hj, hDj, hpre =>
     simp at hj hpre; subst hj
     exact stp D S' 15 51 _ _ _ [(110051, some ⟨c0 + 15, 3, 58⟩)] rfl (by simp) (by simp) (by simp) hi (by simp [hsf 14 50 _ rfl hpre.1, nv]) (.inr ⟨_, rfl⟩)
   | 16, hj, hDj, hpre =>
     simp at hj hpre; subst hj
     have t40 := hsf 4 40 _ rfl hpre.1
     have t51 := hsf 15 51 _ rfl hpre.2.1
     rw [if_neg (by rw [hDj]; simp)] at htn
     have fin : ∀ e : Eff, e.v = n16 -> e.wb = [] -> (e.wt = [(110052, some ⟨c0 + 16, 3, 58⟩)] \/ e.wt = [(110052, none), (110052, some ⟨c0 + 16, 3, 58⟩)]) -> I (fun i => (i == 16) || D i) (S'.app (some 52) e) := by
       rintro ⟨ev, ewb, ewt⟩ rfl rfl hw
       refine (hI _ _).2 ⟨hsf.ins hnd (j := 16) (d := 52) (v := n16) rfl (by rw [St.app_t, if_pos rfl]) (fun y hy => by rw [St.app_t, if_neg (by simp; omega)]), by rw [St.app_t, if_neg (by simp)]; exact g0, by rw [St.app_t, if_neg (by simp)]; exact g1, by rw [St.app_t, if_neg (by simp)]; exact g5, by rw [St.app_t, if_neg (by simp)]; exact g6, hc, hbk, ?_, ?_⟩
       . intro n hn
         rw [<- htf n hn]
         rcases hw with h | h <;> (simp only at h; subst h; show appT _ _ n = _; simp [ne_of_Lm hn, Lm])
       . rcases hw with h | h <;> (simp only at h; subst h; show appT _ _ 110052 = _; simp)
     rcases hn with ⟨rfl, hq⟩ | ⟨sn, rfl, hq⟩
     . exact stepV_op { v := n16, wt := [(110052, some ⟨c0 + 16, 3, 58⟩)] } (by simp [t40, t51, n16, hq, nv]) (fin _ rfl rfl (.inl rfl))
     . exact stepV_op { v := n16, wt := [(110052, none), (110052, some ⟨c0 + 16, 3, 58⟩)] } (by simp [t40, t51, htn, hq, n16, nv, show (m.notes.length + 1) * 40 <= 140737488355328 by omega]) (fin _ rfl rfl (.inr rfl))
   | 17, hj, hDj, hpre =>
     simp at hj hpre; subst hj
     exact stp D S' 17 53 _ _ _ [] rfl (by simp) (by simp) (by simp) hi (by simp [hsf 0 36 _ rfl hpre.1]) (.inl rfl)
   | 18, hj, hDj, hpre =>
     simp at hj hpre; subst hj
     exact stp D S' 18 54 _ _ _ [] rfl (by simp) (by simp) (by simp) hi (by simp [hsf 17 53 _ rfl hpre.1]) (.inl rfl)
   | 19, hj, hDj, hpre =>
     simp at hj hpre; subst hj
     have hq := hbk0 hDj (by omega)
     refine stepV_op { v := .junk, wb := [(84026, M')] } (by simp [hsf 18 54 _ rfl hpre.1, hsf 16 52 _ rfl hpre.2.1, hq, hB1, M', n16]) ?_
     refine (hI _ _).2 ⟨hsf.keep (j := 19) rfl rfl, g0, g1, g5, g6, hc, ?_, htf, ?_⟩
     . simp [St.app, appB, hq]
     . simpa using htn
   | j + 20, hj, hDj, hpre => simp at hj
 . rintro D S' hD hi
   obtain ⟨hsf, g0, g1, g5, g6, hc, hbk, htf, htn⟩ := (hI _ _).1 hi
   rw [if_pos (hD 19 (by simp))] at hbk
   rw [if_pos (hD 16 (by simp))] at htn
   have m1 : S'.blk 84026 = M' := by rw [hbk]; simp
   have m2 : S'.blk 1000163000 = S.blk 1000163000 := by rw [hbk]; simp [hB3]
   have m3 : S'.blk 1000107000 = some ⟨s2, 1, es⟩ := by rw [hbk]; simp [hB2]
   have m4 : ∀ n, Lm n = false -> S'.blk n = S.blk n := by intro n hn; rw [hbk]; simp [ne_of_Lm hn, Lm]; exact hBf n hn
   simp [g0, g6, m1, M', show xs.length <= NL by omega]
   refine hk2 hlost _ (Fr.here (fun n hn => by simp [ne_of_Lm hn, Lm]; exact m4 n hn) (fun n hn => htf n hn) (by omega)) (MS.mk' (upd_same _ _ _) ?_ ?_ ?_)
   . rcases hr with ⟨rfl, hq⟩ | ⟨sr, rfl, hq⟩
     . exact .inl ⟨rfl, hq⟩
     . exact .inr ⟨sr, rfl, by simp [m2, hq]⟩
   . refine .inr ⟨s2, es, rfl, by simp [m3], by simp only []; omega, ?_⟩
     have := congrArg (List.take xs.length) htk
     rw [List.take_take, Nat.min_eq_left (by omega), List.map_append, List.take_left' (by simp)] at this
     exact this
   . refine .inr ⟨c0 + 16, ?_, by simpa using htn⟩
     simp [n16, nv, Nt.av]
end Go.Gv
