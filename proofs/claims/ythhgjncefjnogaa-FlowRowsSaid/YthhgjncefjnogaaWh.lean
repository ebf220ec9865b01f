/- The law FlowJoins answers true. No condition. -/
import Derived.Test.YthhgjncefjnogaaProg
import Derived.Test.YthhgjncefjnogaaWg
set_option linter.unusedVariables false
set_option linter.unusedSimpArgs false
namespace Go.Gv
open Go.Proofs

def fjoins_r0 : List AI := [⟨(some 6), none, (.op (.mv (.c (.bool false))))⟩]
def fjoins_r1 : List AI := [⟨(some 13), none, (.op (.mv (.t 0)))⟩, ⟨(some 14), none, (.op (.ibin .lss (.t 13) (.c (.int .i64 0))))⟩, ⟨(some 15), none, (.op (.mv (.t 14)))⟩, ⟨(some 16), (some (15, false)), (.op (.mv (.t 0)))⟩, ⟨(some 17), (some (15, false)), (.op (.ibin .gtr (.t 16) (.c (.int .i64 6))))⟩, ⟨(some 18), none, (.op (.pick (.t 15) (.c (.bool true)) (.t 17)))⟩, ⟨(some 19), none, (.op (.mv (.t 18)))⟩, ⟨(some 20), (some (19, false)), (.op (.mv (.t 1)))⟩, ⟨(some 21), (some (19, false)), (.op (.ibin .lss (.t 20) (.c (.int .i64 0))))⟩, ⟨(some 22), none, (.op (.pick (.t 19) (.c (.bool true)) (.t 21)))⟩, ⟨(some 23), none, (.op (.mv (.t 22)))⟩, ⟨(some 24), (some (23, false)), (.op (.mv (.t 1)))⟩, ⟨(some 25), (some (23, false)), (.op (.ibin .gtr (.t 24) (.c (.int .i64 6))))⟩, ⟨(some 26), none, (.op (.pick (.t 23) (.c (.bool true)) (.t 25)))⟩]
def fjoins_r2 : List AI := [⟨(some 27), none, (.call (.c (.fn 32 [])) [])⟩, ⟨(some 6), none, (.op (.mv (.t 27)))⟩]
def fjoins_r3 : List AI := [⟨(some 7), none, (.op (.mv (.c .nils)))⟩]
def fjoins_r4 : List AI := [⟨(some 8), none, (.op (.mv (.c (.int .i64 0))))⟩]
def fjoins_r5 : List AI := [⟨(some 28), none, (.op (.mv (.t 2)))⟩]
def fjoins_r6 : List AI := [⟨(some 9), none, (.op (.mv (.c (.int .i64 0))))⟩]
def fjoins_r7 : List AI := [⟨(some 29), none, (.op (.mv (.t 9)))⟩, ⟨(some 30), none, (.op (.mv (.t 0)))⟩, ⟨(some 31), none, (.op (.ibin .lss (.t 29) (.t 30)))⟩]
def fjoins_r8 : List AI := [⟨(some 34), none, (.op (.mv (.t 7)))⟩, ⟨(some 35), none, (.op (.build [(.int .i64 0), (.int .i64 0)] [(0, (1, (.c (.int .i64 1))))]))⟩, ⟨(some 36), none, (.op (.bsl 10036 2 35 1 (.agg [(.int .i64 0), (.int .i64 0)]) [(0, (.t 35))]))⟩, ⟨(some 37), none, (.op (.app 10007 2 35 16 (.t 34) (.t 36)))⟩, ⟨(some 7), none, (.op (.mv (.t 37)))⟩]
def fjoins_r9 : List AI := [⟨(some 32), none, (.op (.mv (.t 9)))⟩, ⟨(some 33), none, (.op (.ibin .add (.t 32) (.c (.int .i64 1))))⟩, ⟨(some 9), none, (.op (.mv (.t 33)))⟩]
def fjoins_l0 : AC := (.seq (.seq (.reg fjoins_r7) (.cond (.t 31) .skip (.exit 0))) (.seq (.block 1 (.reg fjoins_r8)) (.reg fjoins_r9)))
def fjoins_r10 : List AI := [⟨(some 10), none, (.op (.mv (.c (.int .i64 0))))⟩]
def fjoins_r11 : List AI := [⟨(some 38), none, (.op (.mv (.t 10)))⟩, ⟨(some 39), none, (.op (.mv (.t 1)))⟩, ⟨(some 40), none, (.op (.ibin .lss (.t 38) (.t 39)))⟩]
def fjoins_r12 : List AI := [⟨(some 43), none, (.op (.mv (.t 7)))⟩, ⟨(some 44), none, (.op (.build [(.int .i64 0), (.int .i64 0)] [(0, (1, (.c (.int .i64 2))))]))⟩, ⟨(some 45), none, (.op (.bsl 10045 2 35 1 (.agg [(.int .i64 0), (.int .i64 0)]) [(0, (.t 44))]))⟩, ⟨(some 46), none, (.op (.app 10007 2 35 16 (.t 43) (.t 45)))⟩, ⟨(some 7), none, (.op (.mv (.t 46)))⟩]
def fjoins_r13 : List AI := [⟨(some 41), none, (.op (.mv (.t 10)))⟩, ⟨(some 42), none, (.op (.ibin .add (.t 41) (.c (.int .i64 1))))⟩, ⟨(some 10), none, (.op (.mv (.t 42)))⟩]
def fjoins_l1 : AC := (.seq (.seq (.reg fjoins_r11) (.cond (.t 40) .skip (.exit 2))) (.seq (.block 3 (.reg fjoins_r12)) (.reg fjoins_r13)))
def fjoins_r14 : List AI := [⟨(some 47), none, (.op (.mv (.t 7)))⟩, ⟨(some 48), none, (.op (.build [(.int .i64 0), (.int .i64 0)] [(0, (1, (.c (.int .i64 20)))), (1, (1, (.c (.int .i64 0))))]))⟩, ⟨(some 49), none, (.op (.bsl 10049 2 35 1 (.agg [(.int .i64 0), (.int .i64 0)]) [(0, (.t 48))]))⟩, ⟨(some 50), none, (.op (.app 10007 2 35 16 (.t 47) (.t 49)))⟩, ⟨(some 7), none, (.op (.mv (.t 50)))⟩]
def fjoins_r15 : List AI := [⟨(some 51), none, (.op (.mv (.t 0)))⟩, ⟨(some 52), none, (.op (.mv (.t 1)))⟩, ⟨(some 53), none, (.op (.ibin .neq (.t 51) (.t 52)))⟩]
def fjoins_r16 : List AI := [⟨(some 8), none, (.op (.mv (.c (.int .i64 5))))⟩]
def fjoins_r17 : List AI := [⟨(some 54), none, (.op (.mv (.t 7)))⟩, ⟨(some 55), none, (.op (.build [(.int .i64 0), (.int .i64 0)] [(0, (1, (.c (.int .i64 1))))]))⟩, ⟨(some 56), none, (.op (.mv (.t 0)))⟩, ⟨(some 57), none, (.op (.ibin .add (.c (.int .i64 3)) (.t 56)))⟩, ⟨(some 58), none, (.op (.build [(.int .i64 0), (.int .i64 0)] [(0, (1, (.c (.int .i64 21)))), (1, (1, (.t 57)))]))⟩, ⟨(some 59), none, (.op (.bsl 10059 2 35 2 (.agg [(.int .i64 0), (.int .i64 0)]) [(0, (.t 55)), (1, (.t 58))]))⟩, ⟨(some 60), none, (.op (.app 10007 2 35 16 (.t 54) (.t 59)))⟩, ⟨(some 7), none, (.op (.mv (.t 60)))⟩]
def fjoins_r18 : List AI := [⟨(some 11), none, (.op (.mv (.c (.int .i64 0))))⟩]
def fjoins_r19 : List AI := [⟨(some 61), none, (.op (.mv (.t 11)))⟩, ⟨(some 62), none, (.op (.mv (.t 0)))⟩, ⟨(some 63), none, (.op (.ibin .lss (.t 61) (.t 62)))⟩]
def fjoins_r20 : List AI := [⟨(some 66), none, (.op (.mv (.t 7)))⟩, ⟨(some 67), none, (.op (.build [(.int .i64 0), (.int .i64 0)] [(0, (1, (.c (.int .i64 1))))]))⟩, ⟨(some 68), none, (.op (.bsl 10068 2 35 1 (.agg [(.int .i64 0), (.int .i64 0)]) [(0, (.t 67))]))⟩, ⟨(some 69), none, (.op (.app 10007 2 35 16 (.t 66) (.t 68)))⟩, ⟨(some 7), none, (.op (.mv (.t 69)))⟩]
def fjoins_r21 : List AI := [⟨(some 64), none, (.op (.mv (.t 11)))⟩, ⟨(some 65), none, (.op (.ibin .add (.t 64) (.c (.int .i64 1))))⟩, ⟨(some 11), none, (.op (.mv (.t 65)))⟩]
def fjoins_l2 : AC := (.seq (.seq (.reg fjoins_r19) (.cond (.t 63) .skip (.exit 4))) (.seq (.block 5 (.reg fjoins_r20)) (.reg fjoins_r21)))
def fjoins_r22 : List AI := [⟨(some 70), none, (.op (.mv (.t 7)))⟩, ⟨(some 71), none, (.op (.mv (.t 0)))⟩, ⟨(some 72), none, (.op (.ibin .add (.c (.int .i64 3)) (.t 71)))⟩, ⟨(some 73), none, (.op (.mv (.t 1)))⟩, ⟨(some 74), none, (.op (.ibin .add (.t 72) (.t 73)))⟩, ⟨(some 75), none, (.op (.build [(.int .i64 0), (.int .i64 0)] [(0, (1, (.c (.int .i64 20)))), (1, (1, (.t 74)))]))⟩, ⟨(some 76), none, (.op (.bsl 10076 2 35 1 (.agg [(.int .i64 0), (.int .i64 0)]) [(0, (.t 75))]))⟩, ⟨(some 77), none, (.op (.app 10007 2 35 16 (.t 70) (.t 76)))⟩, ⟨(some 7), none, (.op (.mv (.t 77)))⟩]
def fjoins_r23 : List AI := [⟨(some 12), none, (.op (.mv (.c (.int .i64 0))))⟩]
def fjoins_r24 : List AI := [⟨(some 78), none, (.op (.mv (.t 12)))⟩, ⟨(some 79), none, (.op (.mv (.t 1)))⟩, ⟨(some 80), none, (.op (.ibin .lss (.t 78) (.t 79)))⟩]
def fjoins_r25 : List AI := [⟨(some 83), none, (.op (.mv (.t 7)))⟩, ⟨(some 84), none, (.op (.build [(.int .i64 0), (.int .i64 0)] [(0, (1, (.c (.int .i64 1))))]))⟩, ⟨(some 85), none, (.op (.bsl 10085 2 35 1 (.agg [(.int .i64 0), (.int .i64 0)]) [(0, (.t 84))]))⟩, ⟨(some 86), none, (.op (.app 10007 2 35 16 (.t 83) (.t 85)))⟩, ⟨(some 7), none, (.op (.mv (.t 86)))⟩]
def fjoins_r26 : List AI := [⟨(some 81), none, (.op (.mv (.t 12)))⟩, ⟨(some 82), none, (.op (.ibin .add (.t 81) (.c (.int .i64 1))))⟩, ⟨(some 12), none, (.op (.mv (.t 82)))⟩]
def fjoins_l3 : AC := (.seq (.seq (.reg fjoins_r24) (.cond (.t 80) .skip (.exit 6))) (.seq (.block 7 (.reg fjoins_r25)) (.reg fjoins_r26)))
def fjoins_r27 : List AI := [⟨(some 87), none, (.op (.mv (.t 0)))⟩, ⟨(some 88), none, (.op (.mv (.t 1)))⟩, ⟨(some 89), none, (.op (.ibin .neq (.t 87) (.t 88)))⟩]
def fjoins_r28 : List AI := [⟨(some 8), none, (.op (.mv (.c (.int .i64 5))))⟩]
def fjoins_k0 : AC := (.cond (.t 28) (.seq (.seq (.reg fjoins_r6) (.block 0 (.loop fjoins_l0))) (.seq (.seq (.reg fjoins_r10) (.block 2 (.loop fjoins_l1))) (.seq (.reg fjoins_r14) (.seq (.reg fjoins_r15) (.cond (.t 53) (.reg fjoins_r16) .skip))))) (.seq (.reg fjoins_r17) (.seq (.seq (.reg fjoins_r18) (.block 4 (.loop fjoins_l2))) (.seq (.reg fjoins_r22) (.seq (.seq (.reg fjoins_r23) (.block 6 (.loop fjoins_l3))) (.seq (.reg fjoins_r27) (.cond (.t 89) (.reg fjoins_r28) .skip)))))))
def fjoins_r29 : List AI := [⟨(some 90), none, (.op (.mv (.t 7)))⟩, ⟨(some 91), none, (.call (.c (.fn 40 [])) [(.t 90)])⟩, ⟨(some 92), none, (.call (.c (.fn 36 [])) [(.t 91)])⟩, ⟨(some 93), none, (.op (.mv (.t 8)))⟩, ⟨(some 94), none, (.op (.ibin .eql (.t 92) (.t 93)))⟩, ⟨(some 95), none, (.op (.mv (.t 94)))⟩, ⟨(some 96), (some (95, true)), (.call (.c (.fn 32 [])) [])⟩, ⟨(some 97), none, (.op (.pick (.t 95) (.t 96) (.c (.bool false))))⟩, ⟨(some 6), none, (.op (.mv (.t 97)))⟩]
def fjoins_c : AC := (.seq (.reg fjoins_r0) (.seq (.seq (.reg fjoins_r1) (.cond (.t 26) (.seq (.reg fjoins_r2) .ret) .skip)) (.seq (.reg fjoins_r3) (.seq (.reg fjoins_r4) (.seq (.seq (.reg fjoins_r5) fjoins_k0) (.seq (.reg fjoins_r29) .ret))))))
def fjoins_res : List ARes := [(.tmp 6)]
set_option maxRecDepth 100000 in
theorem fjoins_get : getF Try.prog 10 10000 [(37, 7), (46, 7), (50, 7), (60, 7), (69, 7), (77, 7), (86, 7)] = some ("gavotte/gavottelaw4.FlowJoins", 98, fjoins_c, fjoins_res) := by kernel_rfl
attribute [simp] fjoins_r0 fjoins_r1 fjoins_r2 fjoins_r3 fjoins_r4 fjoins_r5 fjoins_r6 fjoins_r7 fjoins_r8 fjoins_r9 fjoins_r10 fjoins_r11 fjoins_r12 fjoins_r13 fjoins_r14 fjoins_r15 fjoins_r16 fjoins_r17 fjoins_r18 fjoins_r19 fjoins_r20 fjoins_r21 fjoins_r22 fjoins_r23 fjoins_r24 fjoins_r25 fjoins_r26 fjoins_r27 fjoins_r28 fjoins_r29 fjoins_res

/-- A list with n like ones behind it. -/
def reps {α : Type} (l : List α) (n : Nat) (x : α) : List α := l ++ List.replicate n x
theorem reps_zero {α : Type} (l : List α) (x : α) : reps l 0 x = l := by simp [reps]
theorem reps_av {α : Type} (f : α → AV) (l : List α) (n : Nat) (x : α) : (reps l (n + 1) x).map f = (reps l n x).map f ++ [f x] := by simp [reps, List.replicate_succ', ← List.append_assoc]
theorem reps_len {α : Type} (l : List α) (n : Nat) (x : α) : (reps l n x).length = l.length + n := by simp [reps]
theorem snoc_av {α : Type} (f : α → AV) (l : List α) (x : α) : (l ++ [x]).map f = l.map f ++ [f x] := by simp
def joinB (a b : Nat) : List Ins := reps (reps [] a ⟨1, 0⟩) b ⟨2, 0⟩ ++ [⟨20, 0⟩]
def joinF (a b : Nat) : List Ins := reps (reps [⟨1, 0⟩, ⟨21, (3 + a : Nat)⟩] a ⟨1, 0⟩ ++ [⟨20, (3 + a + b : Nat)⟩]) b ⟨1, 0⟩
set_option maxRecDepth 100000 in
theorem joinB_law : ∀ a b : Fin 7, flowV (hdlP (joinB a b)) = if a = b then 0 else 5 := by decide +kernel
set_option maxRecDepth 100000 in
theorem joinF_law : ∀ a b : Fin 7, flowV (hdlP (joinF a b)) = if a = b then 0 else 5 := by decide +kernel
def FJ (a b : Nat) (e : Int) (S : St) (xs : List Ins) : Prop := S.t 0 = iv a ∧ S.t 1 = iv b ∧ S.t 8 = iv e ∧ AccIs S (S.t 7) 10007 2 35 (xs.map Ins.av)
theorem AccIs.co {S : St} {v : AV} {nm sz : Nat} {ty : TypeId} {xs : List AV} (h : AccIs S v nm sz ty xs) (B : Option (Nat → Option Blk)) : Go.Gv.co B v (.lst sz xs) := by
  have := h.out.2.2 B
  rcases h with ⟨rfl, rfl⟩ | ⟨st, rfl, _⟩ <;> exact this
theorem V_cut {P : Program} {a : AC} {κ : Ex → St → Prop} {S : St} (Q : St → Prop) (h : V P a (fun e S' => e = .normal ∧ Q S') S) (hk : ∀ S', Q S' → κ .normal S') : V P a κ S :=
  V_mono a (by rintro e S' ⟨rfl, q⟩; exact hk S' q) h
theorem fj_back (a b : Nat) (ha : a ≤ 6) (hb : b ≤ 6) (S : St) (h : FJ a b 0 S []) (g28 : S.t 28 = .bool true) : V Try.prog fjoins_k0 (fun e S' => e = .normal ∧ FJ a b (if a = b then 0 else 5) S' (joinB a b)) S := by
  obtain ⟨g1, g2, g3, hv⟩ := h
  simp [fjoins_k0, g28]
  refine loopN (fun i S => S.t 9 = iv i ∧ FJ a b 0 S (reps [] i ⟨1, 0⟩)) a ?_ ?_
  · rw [reps_zero]; simpa [FJ, AccIs, g1, g2, g3] using hv
  · clear g1 g2 g3 hv g28 S
    rintro i S hi ⟨g0, g1, g2, g3, hv⟩
    by_cases hlt : i < a
    · simp [fjoins_l0, g0, g1, g2, g3, hlt]
      have ws := wrap_succ i _ hlt (by omega)
      have e := reps_av Ins.av [] i ⟨1, 0⟩
      rcases hv with ⟨q1, q2⟩ | ⟨st, q1, q2⟩
      · simp [q1, g0, g1, g2, g3, hlt, ws]
        simp [FJ, AccIs, e, q2, g1, g2, g3]
      · simp [q1, q2, g0, g1, g2, g3, hlt, ws, reps_len, show (i + 1) * 16 ≤ 140737488355328 by omega]
        simp [FJ, AccIs, e, q2, g1, g2, g3]
    · have e1 : i = a := by omega
      subst e1
      simp [fjoins_l0, g0, g1, g2, g3]
      clear g0 hlt hi
      have hv0 : FJ i b 0 S (reps [] i ⟨1, 0⟩) := ⟨g1, g2, g3, hv⟩
      generalize hc : reps [] i (⟨1, 0⟩ : Ins) = c at hv hv0
      clear g1 g2 g3 hv
      refine loopN (fun j S => S.t 10 = iv j ∧ FJ i b 0 S (reps c j ⟨2, 0⟩)) b ?_ ?_
      · rw [reps_zero]; simpa [FJ, AccIs] using hv0
      · clear hv0 S
        rintro j S hj ⟨g0, g1, g2, g3, hv⟩
        have hcl : c.length = i := by rw [← hc, reps_len]; simp
        by_cases hlt : j < b
        · simp [fjoins_l1, g0, g1, g2, g3, hlt]
          have ws := wrap_succ j _ hlt (by omega)
          have e := reps_av Ins.av c j ⟨2, 0⟩
          rcases hv with ⟨q1, q2⟩ | ⟨st, q1, q2⟩
          · simp [q1, g0, g1, g2, g3, hlt, ws]
            simp [FJ, AccIs, e, q2, g1, g2, g3]
          · simp [q1, q2, g0, g1, g2, g3, hlt, ws, reps_len, hcl, show (i + j + 1) * 16 ≤ 140737488355328 by omega]
            simp [FJ, AccIs, e, q2, g1, g2, g3]
        · have e1 : j = b := by omega
          subst e1
          simp [fjoins_l1, g0, g1, g2, g3]
          have e : (joinB i j).map Ins.av = (reps c j ⟨2, 0⟩).map Ins.av ++ [.agg [.int .i64 20, .int .i64 0]] := by rw [joinB, hc, snoc_av]; rfl
          rcases hv with ⟨q1, q2⟩ | ⟨st, q1, q2⟩
          · simp [q1, g0, g1, g2, g3]
            refine split (fun h => ?_) (fun h => ?_) <;> simp [FJ, AccIs, e, q2, g1, g2, g3, show i = j ↔ (i : Int) = (j : Int) by omega, h]
          · simp [q1, q2, g0, g1, g2, g3, hcl, reps_len, show (i + j + 1) * 16 ≤ 140737488355328 by omega]
            refine split (fun h => ?_) (fun h => ?_) <;> simp [FJ, AccIs, e, q2, g1, g2, g3, show i = j ↔ (i : Int) = (j : Int) by omega, h]
theorem fj_fwd (a b : Nat) (ha : a ≤ 6) (hb : b ≤ 6) (S : St) (h : FJ a b 0 S []) (g28 : S.t 28 = .bool false) (g7 : S.t 7 = .nils) : V Try.prog fjoins_k0 (fun e S' => e = .normal ∧ FJ a b (if a = b then 0 else 5) S' (joinF a b)) S := by
  obtain ⟨g1, g2, g3, hv⟩ := h
  clear hv
  have w3 : IntKind.i64.wrap (3 + (a : Int)) = 3 + (a : Int) := wrap_in _ (by omega) (by omega)
  have w4 : IntKind.i64.wrap (3 + (a : Int) + (b : Int)) = 3 + (a : Int) + (b : Int) := wrap_in _ (by omega) (by omega)
  simp [fjoins_k0, g28, g1, g2, g3, g7, w3]
  generalize hc0 : ([⟨1, 0⟩, ⟨21, (3 + a : Nat)⟩] : List Ins) = c0
  refine loopN (fun i S => S.t 11 = iv i ∧ FJ a b 0 S (reps c0 i ⟨1, 0⟩)) a ?_ ?_
  · rw [reps_zero, ← hc0]; simp [FJ, AccIs, g1, g2, g3]
  · clear g1 g2 g3 g7 g28 S
    rintro i S hi ⟨g0, g1, g2, g3, hv⟩
    have hcl0 : c0.length = 2 := by rw [← hc0]; rfl
    by_cases hlt : i < a
    · simp [fjoins_l2, g0, g1, g2, g3, hlt]
      have ws := wrap_succ i _ hlt (by omega)
      have e := reps_av Ins.av c0 i ⟨1, 0⟩
      rcases hv with ⟨q1, q2⟩ | ⟨st, q1, q2⟩
      · simp [q1, g0, g1, g2, g3, hlt, ws]
        simp [FJ, AccIs, e, q2, g1, g2, g3]
      · simp [q1, q2, g0, g1, g2, g3, hlt, ws, reps_len, hcl0, show (2 + i + 1) * 16 ≤ 140737488355328 by omega]
        simp [FJ, AccIs, e, q2, g1, g2, g3]
    · have e1 : i = a := by omega
      subst e1
      simp [fjoins_l2, g0, g1, g2, g3]
      clear g0 hlt hi
      have hcl1 : (reps c0 i (⟨1, 0⟩ : Ins)).length = i + 2 := by rw [reps_len, hcl0]; omega
      have hj : joinF i b = reps (reps c0 i ⟨1, 0⟩ ++ [⟨20, (3 + i + b : Nat)⟩]) b ⟨1, 0⟩ := by rw [joinF, hc0]
      rw [hj]
      clear hj hcl0
      generalize hc1 : reps c0 i (⟨1, 0⟩ : Ins) = c1 at hv hcl1 ⊢
      have e := snoc_av Ins.av c1 ⟨20, (3 + i + b : Nat)⟩
      have hcl : (c1 ++ [(⟨20, (3 + i + b : Nat)⟩ : Ins)]).length = i + 3 := by rw [List.length_append, hcl1]; rfl
      generalize hc2 : c1 ++ [(⟨20, (3 + i + b : Nat)⟩ : Ins)] = c2 at e hcl ⊢
      have key : ∀ S : St, FJ i b 0 S c2 → S.t 12 = iv 0 → LoopG Try.prog fjoins_l3 (blockK 6 (seqK Try.prog ((AC.reg fjoins_r27).seq (AC.cond (X.t 89) (AC.reg fjoins_r28) AC.skip)) fun e S' => e = Ex.normal ∧ FJ i b (if i = b then 0 else 5) S' (reps c2 b ⟨1, 0⟩))) S .mk := by
        intro S h0 h12
        refine loopN (fun j S => S.t 12 = iv j ∧ FJ i b 0 S (reps c2 j ⟨1, 0⟩)) b ?_ ?_
        · rw [reps_zero]; exact ⟨h12, h0⟩
        · clear h0 h12 S
          rintro j S hj ⟨g0, g1, g2, g3, hv⟩
          by_cases hlt : j < b
          · simp [fjoins_l3, g0, g1, g2, g3, hlt]
            have ws := wrap_succ j _ hlt (by omega)
            have e := reps_av Ins.av c2 j ⟨1, 0⟩
            rcases hv with ⟨q1, q2⟩ | ⟨st, q1, q2⟩
            · simp [q1, g0, g1, g2, g3, hlt, ws]
              simp [FJ, AccIs, e, q2, g1, g2, g3]
            · simp [q1, q2, g0, g1, g2, g3, hlt, ws, reps_len, hcl, show (i + 3 + j + 1) * 16 ≤ 140737488355328 by omega]
              simp [FJ, AccIs, e, q2, g1, g2, g3]
          · have e1 : j = b := by omega
            subst e1
            simp [fjoins_l3, g0, g1, g2, g3]
            refine split (fun h => ?_) (fun h => ?_) <;> simp [FJ, g1, g2, g3, show i = j ↔ (i : Int) = (j : Int) by omega, h] <;> simpa [AccIs] using hv
      rcases hv with ⟨q1, q2⟩ | ⟨st, q1, q2⟩
      · simp [q1, g1, g2, g3, w3, w4]
        refine key _ ?_ ?_ <;> simp [FJ, AccIs, e, q2, g1, g2, g3]
      · simp [q1, q2, g1, g2, g3, w3, w4, hcl1, show (i + 2 + 1) * 16 ≤ 140737488355328 by omega]
        refine key _ ?_ ?_ <;> simp [FJ, AccIs, e, q2, g1, g2, g3]
theorem flowJoins_pc (a b : Int) (back : Bool) : PC Try.prog 10 [iv a, iv b, .bool back] (.bool true) := by
  refine pc_of_get fjoins_get (by simp) _ (by simp) _ ?_
  unfold fjoins_c
  simp
  by_cases h1 : a < 0
  · simp [h1]; refine call awake4_pc (by simp) ?_; simp
  by_cases h2 : 6 < a
  · simp [h1, h2]; refine call awake4_pc (by simp) ?_; simp
  by_cases h3 : b < 0
  · simp [h1, h2, h3]; refine call awake4_pc (by simp) ?_; simp
  by_cases h4 : 6 < b
  · simp [h1, h2, h3, h4]; refine call awake4_pc (by simp) ?_; simp
  simp [h1, h2, h3, h4]
  obtain ⟨a, rfl⟩ := Int.eq_ofNat_of_zero_le (show 0 ≤ a by omega)
  obtain ⟨b, rfl⟩ := Int.eq_ofNat_of_zero_le (show 0 ≤ b by omega)
  have ha : a ≤ 6 := by omega
  have hb : b ≤ 6 := by omega
  clear h1 h2 h3 h4
  refine V_cut (fun S => ∃ xs, flowV (hdlP xs) = (if a = b then 0 else 5) ∧ FJ a b (if a = b then 0 else 5) S xs) ?_ ?_
  · cases back
    · refine V_mono _ ?_ (fj_fwd a b ha hb _ ?_ (by simp) (by simp))
      · rintro e S ⟨rfl, h⟩
        refine ⟨rfl, _, ?_, h⟩
        have := joinF_law ⟨a, by omega⟩ ⟨b, by omega⟩
        simpa using this
      · simp [FJ, AccIs]
    · refine V_mono _ ?_ (fj_back a b ha hb _ ?_ (by simp))
      · rintro e S ⟨rfl, h⟩
        refine ⟨rfl, _, ?_, h⟩
        have := joinB_law ⟨a, by omega⟩ ⟨b, by omega⟩
        simpa using this
      · simp [FJ, AccIs]
  · rintro S ⟨xs, hx, g1, g2, g3, hv⟩
    have o3 := hv.co
    generalize (if a = b then 0 else 5 : Int) = e at *
    simp [g1, g2, g3]
    refine call (handler4_pc xs) (by simp [o3]) ?_
    simp
    refine call (fcheck_pc (hdlP xs)) (by simp) ?_
    simp [hx, g1, g2, g3]
    refine call awake4_pc (by simp) ?_
    simp

end Go.Gv
