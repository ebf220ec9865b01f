/- TopSums: the row and the card. No condition. -/
import Derived.Test.YthidhohdcjojhaaGreatDoorRows
import Derived.Test.YthidhohdcjojhaaGreatDoorCards
import Derived.Test.YthidhohdcjojhaaGreatDoorTie
import Derived.Test.YthidhohdcjojhaaGreatDoorVk
import Derived.Test.YthidhohdcjojhaaGreatDoorM71fa3b3
import Derived.Test.YthidhohdcjojhaaGreatDoorM376f4500
import Derived.WalkKit
import Derived.ProofKit
import Derived.OpenShut
import Derived.ChangeOld
import Derived.Below
import Derived.SizedLaws
import Derived.Carry
import Derived.SevenTiedAt
namespace Go.Proofs.YthidhohdcjojhaaGreatDoor.topSums
open Go.ChangeShapes Go.WideShapes Go.ChangeAt Go.RowKit
set_option linter.unusedVariables false
set_option linter.constructorNameAsVariable false
theorem own : ownKnob Tryz.prog.godebug = none := by kernel_rfl
set_option maxRecDepth 100000 in
theorem lifted (os : Os) (started : os.Started) (H : Type) (enc : TypeId × Value → H) :
    ReturnsInHanded {} Tryz.checked os 6 .any (fun w args => (Rows.topSumsSpec.pre enc Tryz.prog Tryz.f6 Rows.topSumsRow.domain false w args ∧ laidMetH Tryz.prog Rows.topSumsRow.laid w) ∧ sizedMet enc Tryz.prog Tryz.f6 (OpenSpec.ofChange Rows.topSumsSpec) false w args) (Rows.topSumsSpec.post enc Tryz.prog Tryz.f6 false true false false) := by
  refine Gv.returns_shaped (C := Tryz.checked) (X := fun w _ => laidMetH Tryz.prog Rows.topSumsRow.laid w) (fun _ _ _ hh h => h.of_heap hh) own started (by kernel_rfl) Tryz.func6
    (ChangeSpec.witness_shaped (enc := enc) (C := Tryz.checked) (os := os) (X := fun w _ => laidMetH Tryz.prog Rows.topSumsRow.laid w) false (Gv.theWorld os) #[.int .i64 0, .int .i64 0] 8 (World.laidAll_os _ _ _)
      (Gv.theWorld_shaped os _) (by kernel_rfl) (by kernel_rfl) (by kernel_rfl) (Gv.theWorld_met os _)) ?_
  intro W base args ds gs before hval0 hW hL hsh
  have hval : ∀ (j : Nat) t v, Tryz.f6.params[j]? = some t → args[j]? = some v → Value.okWide Tryz.prog W .any base t v := hval0
  have hgl : Gv.GlB W.heap.size W := Gv.gl_of hL hsh
  have hW' := hW
  obtain ⟨p, q, hA0, hV, rfl, hfz, hnd⟩ := hW
  have hA : DataW.TrodAll enc Tryz.prog W 0 (fun _ => true) true Tryz.f6.params.toList args.toList ds p := hA0
  rw [Tryz.params6] at hA hval
  obtain ⟨v0, vs0, d0, ds0, p0, q0, hargs, rfl, rfl, h0, r0⟩ := trodAll_cons hA
  obtain ⟨v1, vs1, d1, ds1, p1, q1, rfl, rfl, rfl, h1, r1⟩ := trodAll_cons r0
  obtain ⟨rfl, rfl, rfl⟩ := trodAll_nil r1
  obtain rfl : args = #[v0, v1] := by cases args; simp_all
  obtain ⟨rfl, rfl⟩ := trodVars_none hV
  obtain ⟨x0, rfl, rfl, rfl, y0⟩ := open_int Tryz.underlying3 (hval 0 3 v0 rfl rfl) h0
  obtain ⟨x1, rfl, rfl, rfl, y1⟩ := open_int Tryz.underlying3 (hval 1 3 v1 rfl rfl) h1
  obtain ⟨hent, hc⟩ := Gv.sums_rc x0 y0 x1 y1
  refine (hc (Gv.Kw W) W #[.int .i64 x0, .int .i64 x1] (fun _ _ _ h => h) hgl rfl ?_).mono ?_
  · intro j y u hy hu
    match j, hy, hu with
    | 0, hy, hu => cases hy; cases hu; exact .int _ _
    | 1, hy, hu => cases hy; cases hu; exact .int _ _
    | j + 2, hy, hu => simp at hy
  · rintro e W' ⟨v, rfl, bel, hr⟩
    cases hr
    exact ⟨_, rfl, _, _, _, [], _, [], hW', trodAll_mk1 (shut_bool Tryz.underlying4 _), (trodAll_cons_mk (shut_int Tryz.underlying3 y0) (trodAll_cons_mk (shut_int Tryz.underlying3 y1) trodAll_mk0)), rfl, bel.frame _, fun h => by cases h⟩
theorem over : Rows.topSumsRow.holds Tryz.pinned (OpenSpec.ofChange Rows.topSumsSpec) :=
  OpenClaim.holds_of_wide 6 Tryz.f6 rfl rfl rfl rfl rfl rfl rfl ⟨rfl, rfl, rfl, rfl, rfl⟩ rfl rfl rfl rfl rfl (by kernel_rfl) Tryz.func6
    (by show joinedFacts Tryz.prog _ _ _ _ = true; unfold joinedFacts; rw [Gv.the_make, Gv.the_lifts, Gv.the_may]; kernel_rfl) (of_decide_eq_true (by kernel_rfl)) (by unfold Func.isWrapper; first | (rw [if_pos (by decide +kernel)]; kernel_rfl) | (rw [if_neg (by decide +kernel)]; exact ⟨rfl, rfl⟩))
    (fun os started H enc _ => lifted os started H enc)
theorem card : Rows.TopSumsCardSaid :=
  Claim7.holds_tied_plain_at .later [] [.data, .data, .data, .data, .sentinel, .sentinel, .listed, .data, .pinned] true (true, "2add5b79b178bbcce34c7d4a1df988471ed8422e0f363f5edf20b41492a42f47") true over (fun _ h => by cases h) (by kernel_rfl) (fun _ h => by cases h) topSums_row_tie rfl ⟨rfl, rfl⟩ (by kernel_rfl) rfl
    (fun f fn hf hfn => by
      obtain rfl : f = 6 := Option.some.inj ((show Tryz.prog.funcNamed "gavotte/gavottetop.TopSums" = some 6 by kernel_rfl).symm.trans hf) |>.symm
      obtain rfl : fn = Tryz.f6 := (Option.some.inj (Tryz.func6.symm.trans hfn)).symm
      exact ⟨by kernel_rfl, fun j t ht => by
        rw [Tryz.params6] at ht
        have hm : t ∈ [3, 3] := by simpa using Array.mem_of_getElem? ht
        have hall : ([3, 3].all fun u => !Tryz.prog.wantsStandIn u) = true := by kernel_rfl
        exact (show Tryz.prog.wantsStandIn t = false by simpa using List.all_eq_true.1 hall t hm)⟩)
    (by kernel_rfl)
end Go.Proofs.YthidhohdcjojhaaGreatDoor.topSums
namespace Go.Proofs.YthidhohdcjojhaaGreatDoor
/-- The tied card, under a short name, for the claim. -/
theorem TopSums_holds : Rows.TopSumsCardSaid := topSums.card
end Go.Proofs.YthidhohdcjojhaaGreatDoor
