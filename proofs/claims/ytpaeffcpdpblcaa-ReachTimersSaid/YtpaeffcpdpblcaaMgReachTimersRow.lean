/- The law ReachTimers answers true. No condition. -/
import Derived.Test.YtpaeffcpdpblcaaRows
import Derived.Test.YtpaeffcpdpblcaaVk
import Derived.Test.YtpaeffcpdpblcaaM6a3f248
import Derived.Test.YtpaeffcpdpblcaaM21b38f96
import Derived.WalkKit
import Derived.ProofKit
import Derived.OpenShut
import Derived.ChangeOld
import Derived.Below
import Derived.SizedLaws
import Derived.Carry
namespace Go.Proofs.Ytpaeffcpdpblcaa.reachTimers
open Go.ChangeShapes Go.WideShapes Go.ChangeAt Go.RowKit
set_option linter.unusedVariables false
theorem own : ownKnob Try.prog.godebug = none := by kernel_rfl
set_option maxRecDepth 100000 in
theorem lifted (os : Os) (started : os.Started) (H : Type) (enc : TypeId × Value → H) :
    ReturnsInHanded {} Try.checked os 5 .any (Rows.reachTimersSpec.pre6 enc Try.prog Try.f5 Rows.reachTimersRow.domain false) (Rows.reachTimersSpec.post enc Try.prog Try.f5 false true false false) := by
  refine returnsInHanded_of_change_sized (C := Try.checked) own started (by kernel_rfl) Try.func5
    (ChangeSpec.witness6 (enc := enc) (C := Try.checked) false ⟨#[], #[.bool false, .bool false, .bool false], []⟩ 8 (by kernel_rfl) (by kernel_rfl) (by kernel_rfl) (by kernel_rfl)) ?_
  intro W base args ds gs before hval0 hW hcnd hsz0 _
  have hval : ∀ (j : Nat) t v, Try.f5.params[j]? = some t → args[j]? = some v → Value.okWide Try.prog W .any base t v := hval0
  have hW' := hW
  obtain ⟨p, q, hA0, hV, rfl, hfz, hnd⟩ := hW
  have hA : DataW.TrodAll enc Try.prog W 0 (fun _ => true) true Try.f5.params.toList args.toList ds p := hA0
  rw [Try.params5] at hA hval
  obtain ⟨v0, vs0, d0, ds0, p0, q0, hargs, rfl, rfl, h0, r0⟩ := trodAll_cons hA
  obtain ⟨v1, vs1, d1, ds1, p1, q1, rfl, rfl, rfl, h1, r1⟩ := trodAll_cons r0
  obtain ⟨v2, vs2, d2, ds2, p2, q2, rfl, rfl, rfl, h2, r2⟩ := trodAll_cons r1
  obtain ⟨rfl, rfl, rfl⟩ := trodAll_nil r2
  obtain rfl : args = #[v0, v1, v2] := by cases args; simp_all
  obtain ⟨rfl, rfl⟩ := trodVars_none hV
  obtain ⟨x0, rfl, rfl, rfl⟩ := open_bool Try.underlying4 (hval 0 4 v0 rfl rfl) h0
  obtain ⟨x1, rfl, rfl, rfl⟩ := open_bool Try.underlying4 (hval 1 4 v1 rfl rfl) h1
  obtain ⟨x2, rfl, rfl, rfl⟩ := open_bool Try.underlying4 (hval 2 4 v2 rfl rfl) h2
  obtain ⟨hent, hc⟩ := Gv.reachTimers_pc x0 x1 x2
  refine (hc (Gv.Kw W) W #[.bool x0, .bool x1, .bool x2] (fun _ _ _ h => h) rfl ?_).mono ?_
  · intro j y u hy hu
    match j, hy, hu with
    | 0, hy, hu => cases hy; cases hu; exact .bool _
    | 1, hy, hu => cases hy; cases hu; exact .bool _
    | 2, hy, hu => cases hy; cases hu; exact .bool _
    | j + 3, hy, hu => simp at hy
  · rintro e W' ⟨v, rfl, bel, hr⟩
    cases hr
    exact ⟨_, rfl, _, _, _, [], _, [], hW', trodAll_mk1 (shut_bool Try.underlying4 _), (trodAll_cons_mk (shut_bool Try.underlying4 _) (trodAll_cons_mk (shut_bool Try.underlying4 _) (trodAll_cons_mk (shut_bool Try.underlying4 _) trodAll_mk0))), rfl, bel.frame _, fun h => by cases h⟩
theorem over : Rows.reachTimersRow.holds Try.pinned (OpenSpec.ofChange Rows.reachTimersSpec) :=
  OpenClaim.holds_of_wide 5 Try.f5 rfl rfl rfl rfl rfl rfl rfl ⟨rfl, rfl, rfl, rfl, rfl⟩ rfl rfl rfl rfl rfl (by kernel_rfl) Try.func5
    (by show joinedFacts Try.prog _ _ _ _ = true; unfold joinedFacts; rw [Gv.the_make, Gv.the_lifts, Gv.the_may]; kernel_rfl) (of_decide_eq_true (by kernel_rfl)) (by unfold Func.isWrapper; first | (rw [if_pos (by decide +kernel)]; kernel_rfl) | (rw [if_neg (by decide +kernel)]; exact ⟨rfl, rfl⟩))
    (fun os started H enc _ => lifted os started H enc)
theorem proved : Rows.ReachTimersSaid := over
end Go.Proofs.Ytpaeffcpdpblcaa.reachTimers
namespace Go.Proofs.Ytpaeffcpdpblcaa
/-- The row, under a short name, for the claim. -/
theorem reachTimers_holds : Rows.ReachTimersSaid := reachTimers.proved
end Go.Proofs.Ytpaeffcpdpblcaa
