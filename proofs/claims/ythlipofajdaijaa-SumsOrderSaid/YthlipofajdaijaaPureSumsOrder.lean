/- For any three 64-bit numbers a, b and c: sums.Less is transitive and answers whether a is below b; and where none of the three lies outside -2^40..2^40, it answers alike of a + c and b + c. The fixed examples of chapter 2 hold. No condition beyond the parameters' own kinds. -/
import Derived.Test.YthlipofajdaijaaPSumsOrderx1
namespace Go.Proofs.Ythlipofajdaijaa.Pure
open Go.RowKit Go.Proofs.Ythlipofajdaijaa.PSumsOrder Go.Proofs.YthlipofajdaijaaW.PrintWords Go.Proofs.YthlipofajdaijaaW.PrintLast

theorem awake_yes : gavottelaw2_awake.f = some true := by decide +kernel

def lt01 (a b : Int) : Int := if a < b then 1 else 0

theorem truth_lt (a b : Int) : sums_Truth.f (decide (a < b)) = some (lt01 a b) := by
  unfold sums_Truth.f lt01
  by_cases h : a < b <;> simp [h]

theorem less_is (a b : Int) : sums_Two.f 16 a b = some (lt01 a b, 0) := by
  unfold sums_Two.f
  simp only [show ¬ (16 : Int) = 9 by decide, show ¬ (16 : Int) = 10 by decide, show ¬ (16 : Int) = 11 by decide, show ¬ (16 : Int) = 15 by decide, if_false, if_true, truth_lt, Option.bind_some]

theorem add_is (a b : Int) : sums_Two.f 9 a b = some (wrap64 (a + b), 0) := by
  unfold sums_Two.f
  rw [if_pos rfl]

theorem j1_far (k : Nat) (a b c x : Int) : gavottelaw2_SumsOrder.j1 (k + 1) a b c x true = some true := by
  simp only [gavottelaw2_SumsOrder.j1, if_true, awake_yes, Option.bind_some]

theorem j1_near (k : Nat) (a b c : Int) (ha : -1099511627776 ≤ a ∧ a ≤ 1099511627776) (hb : -1099511627776 ≤ b ∧ b ≤ 1099511627776) (hc : -1099511627776 ≤ c ∧ c ≤ 1099511627776) :
    gavottelaw2_SumsOrder.j1 (k + 1) a b c (lt01 a b) false = some true := by
  have e1 : wrap64 (a + c) = a + c := by unfold wrap64; omega
  have e2 : wrap64 (b + c) = b + c := by unfold wrap64; omega
  have e3 : lt01 (a + c) (b + c) = lt01 a b := by
    unfold lt01
    by_cases h : a < b
    · rw [if_pos h, if_pos (by omega)]
    · rw [if_neg h, if_neg (by omega)]
  simp only [gavottelaw2_SumsOrder.j1, add_is, less_is, Option.bind_some, e1, e2, e3, awake_yes, if_true]
  simp

theorem j0_yes (k : Nat) (a b c : Int) : gavottelaw2_SumsOrder.j0 (k + 2) a b c (lt01 a b) false = some true := by
  simp only [gavottelaw2_SumsOrder.j0, j1_far]
  by_cases h : c < -1099511627776
  · have e : decide (c < -1099511627776) = true := by simpa using h
    rw [e, j1_far]; simp
  · have e : decide (c < -1099511627776) = false := by simpa using h
    rw [e]
    by_cases h1 : a > 1099511627776
    · simp [h1]
    by_cases h2 : a < -1099511627776
    · simp [h2]
    by_cases h3 : b > 1099511627776
    · simp [h3]
    by_cases h4 : b < -1099511627776
    · simp [h4]
    by_cases h5 : c > 1099511627776
    · simp [h5]
    rw [j1_near k a b c (by omega) (by omega) (by omega)]; simp

theorem SumsOrder : gavottelaw2_SumsOrder.Pure := by
  intro a b c _ _ _
  refine ⟨2, ?_⟩
  unfold gavottelaw2_SumsOrder.f
  simp only [less_is, truth_lt, Option.bind_some]
  have e : (lt01 a b != lt01 a b) = false := by simp
  rw [e, j0_yes 0]
  by_cases h1 : a < b
  · by_cases h2 : b < c
    · have h3 : a < c := by omega
      simp [lt01, h1, h2, h3]
    · simp [lt01, h1, h2]
  · simp [lt01, h1]

end Go.Proofs.Ythlipofajdaijaa.Pure
