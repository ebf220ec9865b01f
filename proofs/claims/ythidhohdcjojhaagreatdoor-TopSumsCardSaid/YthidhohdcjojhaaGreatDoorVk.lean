/- The words of the cut's head, by lemma. No condition. -/
import Derived.Test.YthidhohdcjojhaaGreatDoorRows
namespace Go.Gv
open Go.Proofs
theorem wordsSigns_word (w r : List Char) (h : w.all (fun c => decide (c ≠ Char.ofNat 32)) = true) : wordsSigns (w ++ Char.ofNat 32 :: r) = w :: wordsSigns r := by
  induction w with
  | nil => rfl
  | cons c w ih =>
    simp only [List.all_cons, Bool.and_eq_true, decide_eq_true_eq] at h
    rw [List.cons_append, wordsSigns, ih h.2]
    exact fun e => h.1 e
theorem head_of {P : Program} {w1 w2 w3 R : List Char} (h : P.initOrder = String.ofList (w1 ++ Char.ofNat 32 :: (w2 ++ Char.ofNat 32 :: (w3 ++ Char.ofNat 32 :: R)))) (h1 : w1.all (fun c => decide (c ≠ Char.ofNat 32)) = true) (h2 : w2.all (fun c => decide (c ≠ Char.ofNat 32)) = true) (h3 : w3.all (fun c => decide (c ≠ Char.ofNat 32)) = true)
    (hb : ∀ l, behindMainWord (w1 :: w2 :: l) = l) : behindMainWord (wordsSigns P.initOrder.toList) = w3 :: wordsSigns R := by
  rw [h, String.toList_ofList, wordsSigns_word _ _ h1, wordsSigns_word _ _ h2, wordsSigns_word _ _ h3, hb]
theorem head_words : ∃ R, behindMainWord (wordsSigns Tryz.prog.initOrder.toList) = "cut".toList :: R :=
  ⟨_, head_of (w1 := [Char.ofNat 104, Char.ofNat 97, Char.ofNat 114, Char.ofNat 110, Char.ofNat 101, Char.ofNat 115, Char.ofNat 115]) (w2 := [Char.ofNat 50, Char.ofNat 97, Char.ofNat 100, Char.ofNat 100, Char.ofNat 53, Char.ofNat 98, Char.ofNat 55, Char.ofNat 57, Char.ofNat 98, Char.ofNat 49, Char.ofNat 55, Char.ofNat 56, Char.ofNat 98, Char.ofNat 98, Char.ofNat 99, Char.ofNat 99, Char.ofNat 101, Char.ofNat 51, Char.ofNat 52, Char.ofNat 99, Char.ofNat 55, Char.ofNat 100, Char.ofNat 52, Char.ofNat 97, Char.ofNat 49, Char.ofNat 100, Char.ofNat 102, Char.ofNat 57, Char.ofNat 56, Char.ofNat 56, Char.ofNat 52, Char.ofNat 55, Char.ofNat 49, Char.ofNat 101, Char.ofNat 100, Char.ofNat 56, Char.ofNat 52, Char.ofNat 50, Char.ofNat 50, Char.ofNat 101, Char.ofNat 48, Char.ofNat 102, Char.ofNat 51, Char.ofNat 54, Char.ofNat 51, Char.ofNat 102, Char.ofNat 53, Char.ofNat 101, Char.ofNat 100, Char.ofNat 102, Char.ofNat 50, Char.ofNat 48, Char.ofNat 98, Char.ofNat 52, Char.ofNat 49, Char.ofNat 52, Char.ofNat 57, Char.ofNat 50, Char.ofNat 97, Char.ofNat 52, Char.ofNat 50, Char.ofNat 102, Char.ofNat 52, Char.ofNat 55]) (w3 := "cut".toList)
    (R := [Char.ofNat 97, Char.ofNat 116, Char.ofNat 32, Char.ofNat 103, Char.ofNat 97, Char.ofNat 118, Char.ofNat 111, Char.ofNat 116, Char.ofNat 116, Char.ofNat 101, Char.ofNat 47, Char.ofNat 103, Char.ofNat 97, Char.ofNat 118, Char.ofNat 111, Char.ofNat 116, Char.ofNat 116, Char.ofNat 101, Char.ofNat 116, Char.ofNat 111, Char.ofNat 112, Char.ofNat 46, Char.ofNat 84, Char.ofNat 111, Char.ofNat 112, Char.ofNat 68, Char.ofNat 101, Char.ofNat 101, Char.ofNat 112, Char.ofNat 101, Char.ofNat 114, Char.ofNat 32, Char.ofNat 103, Char.ofNat 97, Char.ofNat 118, Char.ofNat 111, Char.ofNat 116, Char.ofNat 116, Char.ofNat 101, Char.ofNat 47, Char.ofNat 103, Char.ofNat 97, Char.ofNat 118, Char.ofNat 111, Char.ofNat 116, Char.ofNat 116, Char.ofNat 101, Char.ofNat 116, Char.ofNat 111, Char.ofNat 112, Char.ofNat 46, Char.ofNat 84, Char.ofNat 111, Char.ofNat 112, Char.ofNat 87, Char.ofNat 97, Char.ofNat 116, Char.ofNat 99, Char.ofNat 104, Char.ofNat 101, Char.ofNat 115, Char.ofNat 32, Char.ofNat 103, Char.ofNat 97, Char.ofNat 118, Char.ofNat 111, Char.ofNat 116, Char.ofNat 116, Char.ofNat 101, Char.ofNat 47, Char.ofNat 103, Char.ofNat 97, Char.ofNat 118, Char.ofNat 111, Char.ofNat 116, Char.ofNat 116, Char.ofNat 101, Char.ofNat 116, Char.ofNat 111, Char.ofNat 112, Char.ofNat 46, Char.ofNat 84, Char.ofNat 111, Char.ofNat 112, Char.ofNat 70, Char.ofNat 101, Char.ofNat 119, Char.ofNat 101, Char.ofNat 114, Char.ofNat 32, Char.ofNat 103, Char.ofNat 97, Char.ofNat 118, Char.ofNat 111, Char.ofNat 116, Char.ofNat 116, Char.ofNat 101, Char.ofNat 47, Char.ofNat 103, Char.ofNat 97, Char.ofNat 118, Char.ofNat 111, Char.ofNat 116, Char.ofNat 116, Char.ofNat 101, Char.ofNat 116, Char.ofNat 111, Char.ofNat 112, Char.ofNat 46, Char.ofNat 84, Char.ofNat 111, Char.ofNat 112, Char.ofNat 83, Char.ofNat 117, Char.ofNat 109, Char.ofNat 115]) (by kernel_rfl) (by kernel_rfl) (by kernel_rfl) (by kernel_rfl) (fun l => by kernel_rfl)⟩
theorem make_cut {P : Program} (h : ∃ R, behindMainWord (wordsSigns P.initOrder.toList) = "cut".toList :: R) : P.make = some .cut := by
  obtain ⟨R, h⟩ := h
  unfold Program.make; rw [h]
  first | rfl | decide | kernel_rfl | (trace_state; rfl)
theorem strip_cut (R : List (List Char)) : stripLifts liftWords ("cut".toList :: R) = ([], "cut".toList :: R) := by kernel_rfl
theorem lifts_cut {P : Program} (h : ∃ R, behindMainWord (wordsSigns P.initOrder.toList) = "cut".toList :: R) : P.liftsFinal = false := by
  obtain ⟨R, h⟩ := h
  have h1 : P.headLifts = [] := by
    unfold Program.headLifts; rw [h, strip_cut]; kernel_rfl
  unfold Program.liftsFinal; rw [h, h1]; rfl
theorem may_cut {P : Program} (h : ∃ R, behindMainWord (wordsSigns P.initOrder.toList) = "cut".toList :: R) (h1 : P.laysLater = false) (h2 : P.bearsReflect = false) (h3 : P.doorFits [] = true) : P.mayEnter = true := by
  obtain ⟨R, h⟩ := h
  unfold Program.mayEnter; rw [h]
  simp only [strip_cut, h1, h2, h3]
  kernel_rfl
theorem the_make : Tryz.prog.make = some .cut := make_cut head_words
theorem the_lifts : Tryz.prog.liftsFinal = false := lifts_cut head_words
theorem the_may : Tryz.prog.mayEnter = true := may_cut head_words (by kernel_rfl) (by kernel_rfl) (by kernel_rfl)
end Go.Gv
