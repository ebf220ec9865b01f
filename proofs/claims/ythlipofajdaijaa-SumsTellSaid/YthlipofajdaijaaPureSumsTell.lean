/- Of any instruction op and any two 64-bit numbers a and b, sums.Two and sums.One give what the reference's Two and One give, and the fixed examples of chapter 2 hold. No condition beyond the parameters' own kinds. -/
import Derived.Test.YthlipofajdaijaaPSumsTellx2
namespace Go.Proofs.Ythlipofajdaijaa.Pure
open Go.RowKit Go.Proofs.Ythlipofajdaijaa.PSumsTell Go.Proofs.YthlipofajdaijaaW.PrintWords Go.Proofs.YthlipofajdaijaaW.PrintLast

theorem awake_yes : gavottelaw2_awake.f = some true := by decide +kernel

theorem truth_eq (b : Bool) : gavotteref1_Truth.f b = sums_Truth.f b := rfl
theorem one_eq (op a : Int) : gavotteref1_One.f op a = sums_One.f op a := rfl
theorem truth_some (b : Bool) : sums_Truth.f b = some (if b = true then 1 else 0) := by
  unfold sums_Truth.f; split <;> rfl

theorem tdiv_neg_one (a : Int) : Int.tdiv a (-1) = -a := by rw [Int.tdiv_neg, Int.tdiv_one]
theorem tmod_neg_one (a : Int) : Int.tmod a (-1) = 0 := by rw [Int.tmod_neg, Int.tmod_one]

theorem parts_eq (op a b : Int) : ∀ c, gavotteref1_Two.j0 1 op a b c true = sums_parts.f op a b := by
  intro c
  simp only [gavotteref1_Two.j0, sums_parts.f, if_true]
  by_cases hb : b = 0
  · rw [if_pos hb, if_pos hb]
  · rw [if_neg hb, if_neg hb]
    by_cases h1 : b = -1
    · subst h1
      rw [if_pos rfl, tdiv_neg_one, tmod_neg_one]
    · rw [if_neg h1]

theorem two_eq (op a b : Int) : gavotteref1_Two.f 1 op a b = sums_Two.f op a b := by
  unfold gavotteref1_Two.f sums_Two.f
  by_cases h9 : op = 9
  · rw [if_pos h9, if_pos h9]
  rw [if_neg h9, if_neg h9]
  by_cases h10 : op = 10
  · rw [if_pos h10, if_pos h10]
  rw [if_neg h10, if_neg h10]
  by_cases h11 : op = 11
  · rw [if_pos h11, if_pos h11]
  rw [if_neg h11, if_neg h11]
  by_cases h12 : op = 12
  · subst h12
    rw [if_pos rfl]
    have := parts_eq 12 a b 12
    rw [show ((12 : Int) == 12) = true from rfl, this]
    simp only [show ¬ (12 : Int) = 15 by decide, show ¬ (12 : Int) = 16 by decide, show ¬ (12 : Int) = 17 by decide, show ¬ (12 : Int) = 18 by decide, if_false, if_true]
    cases h : sums_parts.f 12 a b <;> rfl
  rw [if_neg h12]
  by_cases h13 : op = 13
  · subst h13
    have := parts_eq 13 a b 13
    rw [show ((13 : Int) == 13) = true from rfl, this]
    simp only [show ¬ (13 : Int) = 15 by decide, show ¬ (13 : Int) = 16 by decide, show ¬ (13 : Int) = 17 by decide, show ¬ (13 : Int) = 18 by decide, show ¬ (13 : Int) = 12 by decide, if_false, if_true]
    cases h : sums_parts.f 13 a b <;> rfl
  have e13 : (op == 13) = false := by simpa using h13
  rw [e13, if_neg h12, if_neg h13]
  rfl

theorem ite_some {α : Type} {c : Prop} [Decidable c] {x y : Option α} (hx : ∃ r, x = some r) (hy : ∃ r, y = some r) : ∃ r, (if c then x else y) = some r := by
  split <;> assumption

theorem bind_of {α β : Type} {x : Option α} {g : α → Option β} (hx : ∃ r, x = some r) (hg : ∀ r, ∃ s, g r = some s) : ∃ r, x.bind g = some r := by
  obtain ⟨r, rfl⟩ := hx; exact hg r

theorem truth_is (b : Bool) : ∃ r, sums_Truth.f b = some r := ⟨_, truth_some b⟩

theorem two_some (op a b : Int) : ∃ r, sums_Two.f op a b = some r := by
  unfold sums_Two.f sums_parts.f
  repeat' (first | exact ⟨_, rfl⟩ | exact truth_is _ | refine ite_some ?_ ?_ | refine bind_of ?_ (fun _ => ?_))

theorem one_some (op a : Int) : ∃ r, sums_One.f op a = some r := by
  unfold sums_One.f
  repeat' (first | exact ⟨_, rfl⟩ | exact truth_is _ | refine ite_some ?_ ?_ | refine bind_of ?_ (fun _ => ?_))

theorem SumsTell : gavottelaw2_SumsTell.Pure := by
  intro op a b _ _ _
  refine ⟨1, ?_⟩
  unfold gavottelaw2_SumsTell.f
  rw [two_eq, one_eq, awake_yes]
  obtain ⟨r, hr⟩ := two_some op a b
  obtain ⟨s, hs⟩ := one_some op a
  rw [hr, hs]
  simp

end Go.Proofs.Ythlipofajdaijaa.Pure
