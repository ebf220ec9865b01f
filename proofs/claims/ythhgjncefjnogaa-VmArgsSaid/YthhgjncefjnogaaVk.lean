/- The words of the cut's head, by lemma. No condition. -/
import Derived.Test.YthhgjncefjnogaaRows
namespace Go.Gv
open Go.Proofs
theorem wordsSigns_word (w r : List Char) (h : w.all (fun c => decide (c ≠ ' ')) = true) : wordsSigns (w ++ ' ' :: r) = w :: wordsSigns r := by
  induction w with
  | nil => rfl
  | cons c w ih =>
    simp only [List.all_cons, Bool.and_eq_true, decide_eq_true_eq] at h
    rw [List.cons_append, wordsSigns, ih h.2]
    exact fun e => h.1 e
theorem head_of {P : Program} {w1 w2 w3 R : List Char} (h : P.initOrder = String.ofList (w1 ++ ' ' :: (w2 ++ ' ' :: (w3 ++ ' ' :: R)))) (h1 : w1.all (fun c => decide (c ≠ ' ')) = true) (h2 : w2.all (fun c => decide (c ≠ ' ')) = true) (h3 : w3.all (fun c => decide (c ≠ ' ')) = true)
    (hb : ∀ l, behindMainWord (w1 :: w2 :: l) = l) : behindMainWord (wordsSigns P.initOrder.toList) = w3 :: wordsSigns R := by
  rw [h, String.toList_ofList, wordsSigns_word _ _ h1, wordsSigns_word _ _ h2, wordsSigns_word _ _ h3, hb]
theorem head_words : ∃ R, behindMainWord (wordsSigns Try.prog.initOrder.toList) = "cut".toList :: R :=
  ⟨_, head_of (w1 := ['h', 'a', 'r', 'n', 'e', 's', 's']) (w2 := ['0', '7', '3', '6', 'b', 'a', '4', 'd', 'b', 'a', '7', 'b', '4', 'e', 'e', 'a', 'b', 'd', '3', '7', '0', 'b', '1', 'c', '6', 'd', '7', '2', 'c', '9', '4', 'c', 'f', '1', '8', '1', '4', '2', 'f', '8', '7', '7', '3', 'd', '5', '0', '2', 'b', '7', 'b', '2', '5', '5', 'a', '1', '9', 'd', '4', '5', '7', '9', '0', 'f', '4']) (w3 := "cut".toList)
    (R := ['a', 't', ' ', 'g', 'a', 'v', 'o', 't', 't', 'e', '/', 'g', 'a', 'v', 'o', 't', 't', 'e', 'l', 'a', 'w', '3', '.', 'P', 'r', 'o', 'g', 'C', 'o', 'p', 'i', 'e', 's', ' ', 'g', 'a', 'v', 'o', 't', 't', 'e', '/', 'g', 'a', 'v', 'o', 't', 't', 'e', 'l', 'a', 'w', '3', '.', 'P', 'r', 'o', 'g', 'L', 'i', 'm', 'i', 't', 's', ' ', 'g', 'a', 'v', 'o', 't', 't', 'e', '/', 'g', 'a', 'v', 'o', 't', 't', 'e', 'l', 'a', 'w', '3', '.', 'P', 'r', 'o', 'g', 'O', 'd', 'd', ' ', 'g', 'a', 'v', 'o', 't', 't', 'e', '/', 'g', 'a', 'v', 'o', 't', 't', 'e', 'l', 'a', 'w', '3', '.', 'P', 'r', 'o', 'g', 'S', 'a', 'm', 'e', ' ', 'g', 'a', 'v', 'o', 't', 't', 'e', '/', 'g', 'a', 'v', 'o', 't', 't', 'e', 'l', 'a', 'w', '4', '.', 'F', 'l', 'o', 'w', 'T', 'e', 'l', 'l', 's', ' ', 'g', 'a', 'v', 'o', 't', 't', 'e', '/', 'g', 'a', 'v', 'o', 't', 't', 'e', 'l', 'a', 'w', '4', '.', 'F', 'l', 'o', 'w', 'R', 'o', 'w', 's', ' ', 'g', 'a', 'v', 'o', 't', 't', 'e', '/', 'g', 'a', 'v', 'o', 't', 't', 'e', 'l', 'a', 'w', '4', '.', 'F', 'l', 'o', 'w', 'R', 'e', 'a', 'c', 'h', ' ', 'g', 'a', 'v', 'o', 't', 't', 'e', '/', 'g', 'a', 'v', 'o', 't', 't', 'e', 'l', 'a', 'w', '4', '.', 'F', 'l', 'o', 'w', 'J', 'o', 'i', 'n', 's', ' ', 'g', 'a', 'v', 'o', 't', 't', 'e', '/', 'g', 'a', 'v', 'o', 't', 't', 'e', 'l', 'a', 'w', '4', '.', 'F', 'l', 'o', 'w', 'S', 'e', 'n', 'd', 's', ' ', 'g', 'a', 'v', 'o', 't', 't', 'e', '/', 'g', 'a', 'v', 'o', 't', 't', 'e', 'l', 'a', 'w', '4', '.', 'F', 'l', 'o', 'w', 'F', 'i', 'r', 's', 't', ' ', 'g', 'a', 'v', 'o', 't', 't', 'e', '/', 'g', 'a', 'v', 'o', 't', 't', 'e', 'l', 'a', 'w', '6', '.', 'V', 'm', 'R', 'u', 'n', 's', ' ', 'g', 'a', 'v', 'o', 't', 't', 'e', '/', 'g', 'a', 'v', 'o', 't', 't', 'e', 'l', 'a', 'w', '6', '.', 'V', 'm', 'F', 'u', 'e', 'l', ' ', 'g', 'a', 'v', 'o', 't', 't', 'e', '/', 'g', 'a', 'v', 'o', 't', 't', 'e', 'l', 'a', 'w', '6', '.', 'V', 'm', 'L', 'o', 'o', 'p', 's', ' ', 'g', 'a', 'v', 'o', 't', 't', 'e', '/', 'g', 'a', 'v', 'o', 't', 't', 'e', 'l', 'a', 'w', '6', '.', 'V', 'm', 'A', 'r', 'g', 's', ' ', 'g', 'a', 'v', 'o', 't', 't', 'e', '/', 'g', 'a', 'v', 'o', 't', 't', 'e', 'l', 'a', 'w', '6', '.', 'V', 'm', 'S', 't', 'a', 'c', 'k', ' ', 'g', 'a', 'v', 'o', 't', 't', 'e', '/', 'g', 'a', 'v', 'o', 't', 't', 'e', 'l', 'a', 'w', '6', '.', 'V', 'm', 'A', 'r', 'm', 's', ' ', 'g', 'a', 'v', 'o', 't', 't', 'e', '/', 'g', 'a', 'v', 'o', 't', 't', 'e', 'l', 'a', 'w', '6', '.', 'V', 'm', 'F', 'a', 'l', 'l', 's', ' ', 'g', 'a', 'v', 'o', 't', 't', 'e', '/', 'g', 'a', 'v', 'o', 't', 't', 'e', 'l', 'a', 'w', '6', '.', 'V', 'm', 'R', 'e', 'g', 's', ' ', 'g', 'a', 'v', 'o', 't', 't', 'e', '/', 'g', 'a', 'v', 'o', 't', 't', 'e', 'l', 'a', 'w', '2', '0', '.', 'R', 'e', 'a', 'c', 'h', 'O', 'n', 'c', 'e', ' ', 'g', 'a', 'v', 'o', 't', 't', 'e', '/', 'g', 'a', 'v', 'o', 't', 't', 'e', 'l', 'a', 'w', '2', '0', '.', 'R', 'e', 'a', 'c', 'h', 'T', 'i', 'm', 'e', 'r', 's', ' ', 'g', 'a', 'v', 'o', 't', 't', 'e', '/', 'g', 'a', 'v', 'o', 't', 't', 'e', 'l', 'a', 'w', '2', '0', '.', 'R', 'e', 'a', 'c', 'h', 'P', 'a', 't', 'h', 's']) (by kernel_rfl) (by kernel_rfl) (by kernel_rfl) (by kernel_rfl) (fun l => by kernel_rfl)⟩
theorem make_cut {P : Program} (h : ∃ R, behindMainWord (wordsSigns P.initOrder.toList) = "cut".toList :: R) : P.make = some .cut := by
  obtain ⟨R, h⟩ := h
  unfold Program.make; rw [h]
  first | rfl | decide | kernel_rfl | (trace_state; rfl)
theorem strip_cut (R : List (List Char)) : stripLifts liftWords ("cut".toList :: R) = ([], "cut".toList :: R) := by kernel_rfl
theorem lifts_cut {P : Program} (h : ∃ R, behindMainWord (wordsSigns P.initOrder.toList) = "cut".toList :: R) : P.liftsFinal = false := by
  obtain ⟨R, h⟩ := h
  have h1 : P.headLifts = [] := by
    unfold Program.headLifts; rw [h, strip_cut]; kernel_rfl
  unfold Program.liftsFinal; rw [h, h1]; rfl
theorem may_cut {P : Program} (h : ∃ R, behindMainWord (wordsSigns P.initOrder.toList) = "cut".toList :: R) (h1 : P.laysLater = false) (h2 : P.bearsReflect = false) (h3 : P.doorFits [] = true) : P.mayEnter = true := by
  obtain ⟨R, h⟩ := h
  unfold Program.mayEnter; rw [h]
  simp only [strip_cut, h1, h2, h3]
  kernel_rfl
theorem the_make : Try.prog.make = some .cut := make_cut head_words
theorem the_lifts : Try.prog.liftsFinal = false := lifts_cut head_words
theorem the_may : Try.prog.mayEnter = true := may_cut head_words (by kernel_rfl) (by kernel_rfl) (by kernel_rfl)
end Go.Gv
