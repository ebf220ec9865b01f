/- For any three 64-bit numbers a, b and c: sums and products of sums.Two wrap as the numbers modulo 2^64 do, exactly one of less, greater and alike holds, and what was divided is the quotient times the divisor and the rest; a divisor of 0 is told. The fixed examples of chapter 2 hold. No condition beyond the parameters' own kinds. -/
import Derived.Test.YthlipofajdaijaaPSumsLawsx1
namespace Go.Proofs.Ythlipofajdaijaa.Pure
open Go.RowKit Go.Proofs.Ythlipofajdaijaa.PSumsLaws Go.Proofs.YthlipofajdaijaaW.PrintWords Go.Proofs.YthlipofajdaijaaW.PrintLast

theorem awake_yes : gavottelaw2_awake.f = some true := by decide +kernel

theorem truth_is (b : Bool) : sums_Truth.f b = some (if b = true then 1 else 0) := by
  unfold sums_Truth.f; split <;> rfl

theorem add_is (a b : Int) : sums_Two.f 9 a b = some (wrap64 (a + b), 0) := by
  unfold sums_Two.f; rw [if_pos rfl]
theorem sub_is (a b : Int) : sums_Two.f 10 a b = some (wrap64 (a - b), 0) := by
  unfold sums_Two.f; rw [if_neg (by decide), if_pos rfl]
theorem mul_is (a b : Int) : sums_Two.f 11 a b = some (wrap64 (a * b), 0) := by
  unfold sums_Two.f; rw [if_neg (by decide), if_neg (by decide), if_pos rfl]
theorem eq_is (a b : Int) : sums_Two.f 15 a b = some (if a = b then 1 else 0, 0) := by
  unfold sums_Two.f
  rw [if_neg (by decide), if_neg (by decide), if_neg (by decide), if_pos rfl, truth_is]
  simp
theorem less_is (a b : Int) : sums_Two.f 16 a b = some (if a < b then 1 else 0, 0) := by
  unfold sums_Two.f
  rw [if_neg (by decide), if_neg (by decide), if_neg (by decide), if_neg (by decide), if_pos rfl, truth_is]
  simp
theorem neg_is (a : Int) : sums_One.f 14 a = some (wrap64 (-a), true) := by
  unfold sums_One.f; rw [if_pos rfl]
theorem div_is (a b : Int) : sums_Two.f 12 a b = sums_parts.f 12 a b := by
  unfold sums_Two.f
  rw [if_neg (by decide), if_neg (by decide), if_neg (by decide), if_neg (by decide), if_neg (by decide), if_neg (by decide), if_neg (by decide), if_pos rfl]
  cases sums_parts.f 12 a b <;> rfl
theorem mod_is (a b : Int) : sums_Two.f 13 a b = sums_parts.f 13 a b := by
  unfold sums_Two.f
  rw [if_neg (by decide), if_neg (by decide), if_neg (by decide), if_neg (by decide), if_neg (by decide), if_neg (by decide), if_neg (by decide), if_neg (by decide), if_pos rfl]
  cases sums_parts.f 13 a b <;> rfl

/-- Two numbers of one rest modulo 2^64 wrap alike. -/
theorem wrap_of (x y : Int) (h : x % 18446744073709551616 = y % 18446744073709551616) : wrap64 x = wrap64 y := by
  unfold wrap64; omega
theorem wrap_mod (x : Int) : wrap64 x % 18446744073709551616 = x % 18446744073709551616 := by
  unfold wrap64; omega
theorem wrap_in (x : Int) (h : -9223372036854775808 ≤ x ∧ x ≤ 9223372036854775807) : wrap64 x = x := by
  unfold wrap64; omega
theorem wrap_mul_left (x y : Int) : wrap64 (wrap64 x * y) = wrap64 (x * y) :=
  wrap_of _ _ (by rw [Int.mul_emod, wrap_mod, ← Int.mul_emod])
theorem wrap_mul_right (x y : Int) : wrap64 (x * wrap64 y) = wrap64 (x * y) :=
  wrap_of _ _ (by rw [Int.mul_emod, wrap_mod, ← Int.mul_emod])
theorem wrap_add_left (x y : Int) : wrap64 (wrap64 x + y) = wrap64 (x + y) :=
  wrap_of _ _ (by rw [Int.add_emod, wrap_mod, ← Int.add_emod])
theorem wrap_add_right (x y : Int) : wrap64 (x + wrap64 y) = wrap64 (x + y) :=
  wrap_of _ _ (by rw [Int.add_emod, wrap_mod, ← Int.add_emod])

theorem j0_yes (k : Nat) (a b : Int) (ha : -9223372036854775808 ≤ a ∧ a ≤ 9223372036854775807) : gavottelaw2_SumsLaws.j0 (k + 1) a b false = some true := by
  simp only [gavottelaw2_SumsLaws.j0, div_is, mod_is, mul_is, add_is, sums_parts.f, awake_yes, Option.bind_some]
  by_cases hb : b = 0
  · simp [hb]
  · have e : wrap64 (wrap64 (wrap64 (a.tdiv b) * b) + a.tmod b) = a := by
      rw [wrap_mul_left, wrap_add_left, Int.mul_comm, Int.mul_tdiv_add_tmod, wrap_in a ha]
    simp [hb, e]

theorem bounds {a : Int} (h : (Lit.int .i64 a).wf = true) : -9223372036854775808 ≤ a ∧ a ≤ 9223372036854775807 := by
  have h' : (decide (IntKind.i64.min ≤ a) && decide (a ≤ IntKind.i64.max)) = true := h
  rw [Bool.and_eq_true, decide_eq_true_iff, decide_eq_true_iff] at h'
  have e1 : IntKind.i64.min = -9223372036854775808 := by decide +kernel
  have e2 : IntKind.i64.max = 9223372036854775807 := by decide +kernel
  rw [e1, e2] at h'
  exact h'

theorem SumsLaws : gavottelaw2_SumsLaws.Pure := by
  intro a b c ha _ _
  refine ⟨1, ?_⟩
  have h := bounds ha
  unfold gavottelaw2_SumsLaws.f
  simp only [add_is, sub_is, mul_is, eq_is, less_is, neg_is, Option.bind_some]
  have e1 : wrap64 (wrap64 (a + b) - b) = a := by unfold wrap64; omega
  have e2 : wrap64 (a * b) = wrap64 (b * a) := by rw [Int.mul_comm]
  have e3 : wrap64 (a + wrap64 (-a)) = 0 := by unfold wrap64; omega
  have e4 : wrap64 (a * wrap64 (b + c)) = wrap64 (wrap64 (a * b) + wrap64 (a * c)) := by
    rw [wrap_mul_right, wrap_add_left, wrap_add_right, Int.mul_add]
  have e5 : wrap64 (wrap64 ((if a < b then 1 else 0) + (if b < a then 1 else 0)) + (if a = b then 1 else 0)) = 1 := by
    rcases Int.lt_trichotomy a b with h1 | h1 | h1
    · rw [if_pos h1, if_neg (by omega), if_neg (by omega)]; decide +kernel
    · rw [if_neg (by omega), if_neg (by omega), if_pos h1]; decide +kernel
    · rw [if_neg (by omega), if_pos h1, if_neg (by omega)]; decide +kernel
  have e6 : (wrap64 (a * wrap64 (b + c)) != wrap64 (wrap64 (a * b) + wrap64 (a * c))) = false := by simp [e4]
  rw [if_pos e1, if_pos e2, if_pos e3, if_pos e5, e6, j0_yes 0 a b h]

end Go.Proofs.Ythlipofajdaijaa.Pure
