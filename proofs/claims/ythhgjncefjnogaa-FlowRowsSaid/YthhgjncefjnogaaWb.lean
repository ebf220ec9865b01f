/- What slices.Repeat does for a list of one number. No condition beyond those that the law names. -/
import Derived.Test.YthhgjncefjnogaaProg
import Derived.Test.YthhgjncefjnogaaWa
import Derived.Test.YthhgjncefjnogaaGw4
set_option linter.unusedVariables false
set_option linter.unusedSimpArgs false
namespace Go.Gv
open Go.Proofs

def rep_r0 : List AI := [⟨(some 4), none, (.op (.mv (.c .nils)))⟩]
def rep_r1 : List AI := [⟨(some 9), none, (.op (.mv (.t 1)))⟩, ⟨(some 10), none, (.op (.ibin .lss (.t 9) (.c (.int .i64 0))))⟩]
def rep_r2 : List AI := [⟨(some 11), none, (.op .bad)⟩, ⟨none, none, (.op .bad)⟩]
def rep_r3 : List AI := [⟨(some 13), none, (.op (.mv (.t 0)))⟩, ⟨(some 14), none, (.op (.len (.t 13)))⟩, ⟨(some 15), none, (.op (.conv .u64 (.t 14)))⟩, ⟨(some 16), none, (.op (.mv (.t 1)))⟩, ⟨(some 17), none, (.op (.conv .u64 (.t 16)))⟩, ⟨(some 18), none, (.call (.c (.fn 105 [])) [(.t 15), (.t 17)])⟩, ⟨(some 12), none, (.op (.mv (.t 18)))⟩, ⟨(some 19), none, (.op (.ext (.t 12) 0))⟩, ⟨(some 20), none, (.op (.ext (.t 12) 1))⟩, ⟨(some 5), none, (.op (.mv (.t 19)))⟩, ⟨(some 6), none, (.op (.mv (.t 20)))⟩]
def rep_r4 : List AI := [⟨(some 21), none, (.op (.mv (.t 5)))⟩, ⟨(some 22), none, (.op (.ibin .gtr (.t 21) (.c (.int .u64 0))))⟩, ⟨(some 23), none, (.op (.mv (.t 22)))⟩, ⟨(some 24), (some (23, false)), (.op (.mv (.t 6)))⟩, ⟨(some 25), (some (23, false)), (.op (.ibin .gtr (.t 24) (.c (.int .u64 9223372036854775807))))⟩, ⟨(some 26), none, (.op (.pick (.t 23) (.c (.bool true)) (.t 25)))⟩]
def rep_r5 : List AI := [⟨(some 27), none, (.op .bad)⟩, ⟨none, none, (.op .bad)⟩]
def rep_r6 : List AI := [⟨(some 28), none, (.op (.mv (.t 6)))⟩, ⟨(some 29), none, (.op (.conv .i64 (.t 28)))⟩, ⟨(some 30), none, (.op (.msl 92030 1 8 (.int .i64 0) (.t 29)))⟩, ⟨(some 7), none, (.op (.mv (.t 30)))⟩]
def rep_r7 : List AI := [⟨(some 31), none, (.op (.mv (.t 7)))⟩, ⟨(some 32), none, (.op (.mv (.t 0)))⟩, ⟨(some 33), none, (.op (.cpy 1 (.t 31) (.t 32)))⟩, ⟨(some 8), none, (.op (.mv (.t 33)))⟩]
def rep_r8 : List AI := [⟨(some 34), none, (.op (.mv (.t 8)))⟩, ⟨(some 35), none, (.op (.mv (.t 7)))⟩, ⟨(some 36), none, (.op (.len (.t 35)))⟩, ⟨(some 37), none, (.op (.ibin .lss (.t 34) (.t 36)))⟩]
def rep_r9 : List AI := [⟨(some 38), none, (.op (.mv (.t 8)))⟩, ⟨(some 39), none, (.op (.mv (.t 7)))⟩, ⟨(some 40), none, (.op (.mv (.t 8)))⟩, ⟨(some 41), none, (.op (.slice (some 1) (.t 39) (some (.t 40)) none))⟩, ⟨(some 42), none, (.op (.mv (.t 7)))⟩, ⟨(some 43), none, (.op (.mv (.t 8)))⟩, ⟨(some 44), none, (.op (.slice (some 1) (.t 42) none (some (.t 43))))⟩, ⟨(some 45), none, (.op (.cpy 1 (.t 41) (.t 44)))⟩, ⟨(some 46), none, (.op (.ibin .add (.t 38) (.t 45)))⟩, ⟨(some 8), none, (.op (.mv (.t 46)))⟩]
def rep_p9 : List (List Nat) := [[], [], [], [1, 2], [], [], [4, 5], [3, 6, 1, 2, 4, 5], [0, 7, 3, 6, 1, 2, 4, 5], [8, 7, 0, 1, 2, 3, 4, 5, 6]]
def rep_l0 : AC := (.seq (.seq (.reg rep_r8) (.cond (.t 37) .skip (.exit 0))) (.block 1 (.regd rep_r9 rep_p9)))
def rep_r10 : List AI := [⟨(some 47), none, (.op (.mv (.t 7)))⟩, ⟨(some 4), none, (.op (.mv (.t 47)))⟩]
def rep_c : AC := (.seq (.reg rep_r0) (.seq (.seq (.reg rep_r1) (.cond (.t 10) (.reg rep_r2) .skip)) (.seq (.reg rep_r3) (.seq (.seq (.reg rep_r4) (.cond (.t 26) (.reg rep_r5) .skip)) (.seq (.reg rep_r6) (.seq (.reg rep_r7) (.seq (.block 0 (.loop rep_l0)) (.seq (.reg rep_r10) .ret))))))))
def rep_res : List ARes := [(.tmp 4)]
set_option maxRecDepth 100000 in
theorem rep_get : getF Try.prog 92 92000 [] = some ("slices.Repeat[[]int,int]", 48, rep_c, rep_res) := by kernel_rfl
attribute [simp] rep_r0 rep_r1 rep_r2 rep_r3 rep_r4 rep_r5 rep_r6 rep_r7 rep_r8 rep_r9 rep_p9 rep_r10 rep_res

theorem replicate_copy (n c : Nat) (a z : AV) (h1 : 0 < n) (h2 : n < c) :
    List.replicate n a ++ (List.replicate (min n (c - n)) a ++ (List.replicate n a ++ List.replicate (c - n) z).drop (n + min n (c - n))) =
      List.replicate (n + min n (c - n)) a ++ List.replicate (c - (n + min n (c - n))) z := by
  rw [List.drop_append]
  simp only [List.drop_replicate, List.length_replicate]
  have e2 : n - (n + min n (c - n)) = 0 := by omega
  rw [e2, List.replicate_zero, List.nil_append, ← List.append_assoc, List.replicate_append_replicate]
  congr 1
  congr 1; omega
theorem repeat_v (x v : Int) (c : Nat) (hv : v = c) (hc : 1 ≤ c) (hc2 : c ≤ 1000) (nm st0 : Nat) {S : St} {k : AV → St → Prop} {u : Dep k}
    (hk : ∀ st S', Fr (rng 92000 93000) S S' → S'.blk 92030 = some ⟨st, 1, List.replicate c (iv x)⟩ → k (.sl 92030 st 1 0 c) S') :
    CallG Try.prog (.fn 92 []) [.acc nm st0 1 [iv x], iv v] S k u := by
  subst hv
  refine callV rep_get (by simp) (by simp) ?_
  unfold rep_c
  have w1 : IntKind.u64.wrap (c : Int) = c := u64_wrap _ (by omega) (by omega)
  have w2 : IntKind.u64.wrap 1 = 1 := by decide
  have w3 : IntKind.i64.wrap (c : Int) = c := wrap_in _ (by omega) (by omega)
  have n1 : ¬ ((c : Int) < 0) := by omega
  have n2 : ¬ ((c : Int) > 9223372036854775807) := by omega
  have n2' : ¬ (9223372036854775807 < (c : Int)) := by omega
  simp [n1, w1, w2]
  refine call (mul_pc c (by omega)) (by simp) ?_
  have hm : c * 8 ≤ 140737488355328 := by omega
  have hl1 : min 1 c = 1 := by omega
  simp [n2, n2', w3, hm, hl1]
  refine loopM (fun m S' => ∃ (n : Nat), m = c - n ∧ 1 ≤ n ∧ n ≤ c ∧ S'.t 8 = iv n ∧ (∃ st, S'.t 7 = .sl 92030 st 1 0 c ∧ S'.blk 92030 = some ⟨st, 1, List.replicate n (iv x) ++ List.replicate (c - n) (iv 0)⟩) ∧ Fh (rng 92000 93000) S S') (c - 1) ?_ ?_
  · refine ⟨1, rfl, by omega, hc, by simp, ⟨S.clk + 1 + 2 + 11 + 6 + 1 + 1, by simp, ?_⟩, ?_⟩
    · simp
    · exact Fh.here (fun n hn => by repeat rw [upd_out hn rfl]) (fun n hn => rfl) (by omega)
  · rintro m S' ⟨n, rfl, h1, h2, g8, ⟨st, g7, gb⟩, hF⟩
    by_cases hlt : n < c
    · have hw : IntKind.i64.wrap ((n : Int) + ((min n (c - n) : Nat) : Int)) = ((n + min n (c - n) : Nat) : Int) := by rw [wrap_in _ (by omega) (by omega)]; omega
      have hle : n + (c - n) ≤ c := by omega
      have hcopy := replicate_copy n c (iv x) (iv 0) h1 hlt
      have hmin : min n c = n := by omega
      simp [rep_l0, g7, g8, gb, hlt, h2, hle]
      exact ⟨c - (n + min n (c - n)), by omega, n + min n (c - n), rfl, by omega, by omega, hw, hcopy, hF.step (fun n hn => by repeat rw [upd_out hn rfl]) (fun n hn => rfl) (by omega)⟩
    · have e : n = c := by omega
      subst e
      simp [rep_l0, g7, g8, gb]
      refine hk st _ ⟨rfl, hF.b, hF.k, by have := hF.c; simp only []; omega⟩ ?_
      simpa using gb

end Go.Gv
