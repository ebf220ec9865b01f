/- For any two 64-bit numbers a and b: sums.And, Or and Not on a and b answer 1 or 0 by whether the numbers are 0, and the fixed examples of chapter 2 hold. No condition beyond the parameters' own kinds. -/
import Derived.Test.YthlipofajdaijaaPSumsTruthx1
namespace Go.Proofs.Ythlipofajdaijaa.Pure
open Go.RowKit Go.Proofs.Ythlipofajdaijaa.PSumsTruth Go.Proofs.YthlipofajdaijaaW.PrintWords Go.Proofs.YthlipofajdaijaaW.PrintLast

theorem awake_yes : gavottelaw2_awake.f = some true := by decide +kernel

/-- 1 of a number that is not 0, else 0. -/
def one (a : Int) : Int := if a = 0 then 0 else 1

theorem truth_ne (a : Int) : sums_Truth.f (a != 0) = some (one a) := by
  unfold sums_Truth.f one
  by_cases h : a = 0 <;> simp [h]

theorem and_is (a b : Int) : sums_Two.f 17 a b = some (if a = 0 then 0 else one b, 0) := by
  unfold sums_Two.f
  simp only [show ¬ (17 : Int) = 9 by decide, show ¬ (17 : Int) = 10 by decide, show ¬ (17 : Int) = 11 by decide, show ¬ (17 : Int) = 15 by decide, show ¬ (17 : Int) = 16 by decide, if_false, if_true, truth_ne, Option.bind_some]
  by_cases h : a = 0 <;> simp [h, sums_Truth.f]

theorem or_is (a b : Int) : sums_Two.f 18 a b = some (if a = 0 then one b else 1, 0) := by
  unfold sums_Two.f
  simp only [show ¬ (18 : Int) = 9 by decide, show ¬ (18 : Int) = 10 by decide, show ¬ (18 : Int) = 11 by decide, show ¬ (18 : Int) = 15 by decide, show ¬ (18 : Int) = 16 by decide, show ¬ (18 : Int) = 17 by decide, if_false, if_true, truth_ne, Option.bind_some]
  by_cases h : a = 0 <;> simp [h, sums_Truth.f]

theorem not_is (a : Int) : sums_One.f 19 a = some (if a = 0 then 1 else 0, true) := by
  unfold sums_One.f sums_Truth.f
  by_cases h : a = 0 <;> simp [h]

theorem SumsTruth : gavottelaw2_SumsTruth.Pure := by
  intro a b _ _
  unfold gavottelaw2_SumsTruth.f
  simp only [truth_ne, and_is, or_is, not_is, Option.bind_some, awake_yes]
  by_cases ha : a = 0 <;> by_cases hb : b = 0 <;> simp [ha, hb, one, wrap64]

end Go.Proofs.Ythlipofajdaijaa.Pure
