/- TopDeeper: the row and the card. No condition. -/
import Derived.Test.YthidhohdcjojhaaGreatDoorRows
import Derived.Test.YthidhohdcjojhaaGreatDoorCards
import Derived.Test.YthidhohdcjojhaaGreatDoorTie
import Derived.Test.YthidhohdcjojhaaGreatDoorVk
import Derived.Test.YthidhohdcjojhaaGreatDoorM71fa3b3
import Derived.Test.YthidhohdcjojhaaGreatDoorM373f768d
import Derived.WalkKit
import Derived.ProofKit
import Derived.OpenShut
import Derived.ChangeOld
import Derived.Below
import Derived.SizedLaws
import Derived.Carry
import Derived.SevenTiedAt
namespace Go.Proofs.YthidhohdcjojhaaGreatDoor.topDeeper
open Go.ChangeShapes Go.WideShapes Go.ChangeAt Go.RowKit
set_option linter.unusedVariables false
set_option linter.constructorNameAsVariable false
theorem own : ownKnob Tryz.prog.godebug = none := by kernel_rfl
set_option maxRecDepth 100000 in
theorem lifted (os : Os) (started : os.Started) (H : Type) (enc : TypeId × Value → H) :
    ReturnsInHanded {} Tryz.checked os 3 .any (fun w args => (Rows.topDeeperSpec.pre enc Tryz.prog Tryz.f3 Rows.topDeeperRow.domain false w args ∧ laidMetH Tryz.prog Rows.topDeeperRow.laid w) ∧ sizedMet enc Tryz.prog Tryz.f3 (OpenSpec.ofChange Rows.topDeeperSpec) false w args) (Rows.topDeeperSpec.post enc Tryz.prog Tryz.f3 false true false false) := by
  refine Gv.returns_shaped (C := Tryz.checked) (X := fun w _ => laidMetH Tryz.prog Rows.topDeeperRow.laid w) (fun _ _ _ hh h => h.of_heap hh) own started (by kernel_rfl) Tryz.func3
    (ChangeSpec.witness_shaped (enc := enc) (C := Tryz.checked) (os := os) (X := fun w _ => laidMetH Tryz.prog Rows.topDeeperRow.laid w) false (Gv.theWorld os) #[.agg #[.slice none 0 0, .slice none 0 0, .slice none 0 0, .int .i64 0, .slice none 0 0, .int .i64 0, .int .i64 0, .int .i64 0, .int .i64 0, .int .i64 0, .int .i64 0], .int .i64 0, .int .i64 0, .agg #[.int .i64 0, .int .i64 0, .int .i64 0, .int .i64 0]] 8 (World.laidAll_os _ _ _)
      (Gv.theWorld_shaped os _) (by kernel_rfl) (by kernel_rfl) (by kernel_rfl) (Gv.theWorld_met os _)) ?_
  intro W base args ds gs before hval0 hW hL hsh
  have hval : ∀ (j : Nat) t v, Tryz.f3.params[j]? = some t → args[j]? = some v → Value.okWide Tryz.prog W .any base t v := hval0
  have hgl : Gv.GlB W.heap.size W := Gv.gl_of hL hsh
  have hW' := hW
  obtain ⟨p, q, hA0, hV, rfl, hfz, hnd⟩ := hW
  have hA : DataW.TrodAll enc Tryz.prog W 0 (fun _ => true) true Tryz.f3.params.toList args.toList ds p := hA0
  rw [Tryz.params3] at hA hval
  obtain ⟨v0, vs0, d0, ds0, p0, q0, hargs, rfl, rfl, h0, r0⟩ := trodAll_cons hA
  obtain ⟨v1, vs1, d1, ds1, p1, q1, rfl, rfl, rfl, h1, r1⟩ := trodAll_cons r0
  obtain ⟨v2, vs2, d2, ds2, p2, q2, rfl, rfl, rfl, h2, r2⟩ := trodAll_cons r1
  obtain ⟨v3, vs3, d3, ds3, p3, q3, rfl, rfl, rfl, h3, r3⟩ := trodAll_cons r2
  obtain ⟨rfl, rfl, rfl⟩ := trodAll_nil r3
  obtain rfl : args = #[v0, v1, v2, v3] := by cases args; simp_all
  obtain ⟨rfl, rfl⟩ := trodVars_none hV
  obtain ⟨x0, y0, z0⟩ := Gv.open_task h0
  have lt0 := fun x hx => (show ∀ x ∈ p0, x.block < W.heap.size from by obtain ⟨n, hn⟩ := h0; exact DataW.trod_lt n _ _ _ hn) x hx
  obtain ⟨x1, rfl, rfl, rfl, y1⟩ := open_int Tryz.underlying3 (hval 1 3 v1 rfl rfl) h1
  obtain ⟨x2, rfl, rfl, rfl, y2⟩ := open_int Tryz.underlying3 (hval 2 3 v2 rfl rfl) h2
  obtain ⟨x3, y3, z3⟩ := Gv.open_bud h3
  have lt3 := fun x hx => (show ∀ x ∈ p3, x.block < W.heap.size from by obtain ⟨n, hn⟩ := h3; exact DataW.trod_lt n _ _ _ hn) x hx
  obtain ⟨hent, hc⟩ := Gv.deep_rc x0 y0 x1 x2 x3
  refine (hc (Gv.Kw W) W #[v0, .int .i64 x1, .int .i64 x2, v3] (fun _ _ _ h => h) hgl rfl ?_).mono ?_
  · intro j y u hy hu
    match j, hy, hu with
    | 0, hy, hu => cases hy; cases hu; exact z0
    | 1, hy, hu => cases hy; cases hu; exact .int _ _
    | 2, hy, hu => cases hy; cases hu; exact .int _ _
    | 3, hy, hu => cases hy; cases hu; exact z3
    | j + 4, hy, hu => simp at hy
  · rintro e W' ⟨v, rfl, bel, hr⟩
    cases hr
    exact ⟨_, rfl, _, _, _, [], _, [], hW', trodAll_mk1 (shut_bool Tryz.underlying4 _), (trodAll_cons_mk (bel.trod (by kernel_rfl) (by kernel_rfl) (by decide) h0 lt0) (trodAll_cons_mk (shut_int Tryz.underlying3 y1) (trodAll_cons_mk (shut_int Tryz.underlying3 y2) (trodAll_cons_mk (bel.trod (by kernel_rfl) (by kernel_rfl) (by decide) h3 lt3) trodAll_mk0)))), rfl, bel.frame _, fun h => by cases h⟩
theorem over : Rows.topDeeperRow.holds Tryz.pinned (OpenSpec.ofChange Rows.topDeeperSpec) :=
  OpenClaim.holds_of_wide 3 Tryz.f3 rfl rfl rfl rfl rfl rfl rfl ⟨rfl, rfl, rfl, rfl, rfl⟩ rfl rfl rfl rfl rfl (by kernel_rfl) Tryz.func3
    (by show joinedFacts Tryz.prog _ _ _ _ = true; unfold joinedFacts; rw [Gv.the_make, Gv.the_lifts, Gv.the_may]; kernel_rfl) (of_decide_eq_true (by kernel_rfl)) (by unfold Func.isWrapper; first | (rw [if_pos (by decide +kernel)]; kernel_rfl) | (rw [if_neg (by decide +kernel)]; exact ⟨rfl, rfl⟩))
    (fun os started H enc _ => lifted os started H enc)
theorem card : Rows.TopDeeperCardSaid :=
  Claim7.holds_tied_plain_at .later [] [.data, .data, .data, .data, .sentinel, .sentinel, .listed, .data, .pinned] true (true, "2add5b79b178bbcce34c7d4a1df988471ed8422e0f363f5edf20b41492a42f47") true over (fun _ h => by cases h) (by kernel_rfl) (fun _ h => by cases h) topDeeper_row_tie rfl ⟨rfl, rfl⟩ (by kernel_rfl) rfl
    (fun f fn hf hfn => by
      obtain rfl : f = 3 := Option.some.inj ((show Tryz.prog.funcNamed "gavotte/gavottetop.TopDeeper" = some 3 by kernel_rfl).symm.trans hf) |>.symm
      obtain rfl : fn = Tryz.f3 := (Option.some.inj (Tryz.func3.symm.trans hfn)).symm
      exact ⟨by kernel_rfl, fun j t ht => by
        rw [Tryz.params3] at ht
        have hm : t ∈ [33, 3, 3, 29] := by simpa using Array.mem_of_getElem? ht
        have hall : ([33, 3, 3, 29].all fun u => !Tryz.prog.wantsStandIn u) = true := by kernel_rfl
        exact (show Tryz.prog.wantsStandIn t = false by simpa using List.all_eq_true.1 hall t hm)⟩)
    (by kernel_rfl)
end Go.Proofs.YthidhohdcjojhaaGreatDoor.topDeeper
namespace Go.Proofs.YthidhohdcjojhaaGreatDoor
/-- The tied card, under a short name, for the claim. -/
theorem TopDeeper_holds : Rows.TopDeeperCardSaid := topDeeper.card
end Go.Proofs.YthidhohdcjojhaaGreatDoor
