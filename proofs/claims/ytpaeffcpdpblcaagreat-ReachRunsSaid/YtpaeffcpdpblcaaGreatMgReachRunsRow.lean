/- The law ReachRuns answers true. No condition. -/
import Derived.Test.YtpaeffcpdpblcaaGreatRows
import Derived.Test.YtpaeffcpdpblcaaGreatVk
import Derived.Test.YtpaeffcpdpblcaaGreatM6ef64fa
import Derived.Test.YtpaeffcpdpblcaaGreatM22d21a07
import Derived.WalkKit
import Derived.ProofKit
import Derived.OpenShut
import Derived.ChangeOld
import Derived.Below
import Derived.SizedLaws
import Derived.Carry
namespace Go.Proofs.YtpaeffcpdpblcaaGreat.reachRuns
open Go.ChangeShapes Go.WideShapes Go.ChangeAt Go.RowKit
set_option linter.unusedVariables false
theorem own : ownKnob Tryz.prog.godebug = none := by kernel_rfl
set_option maxRecDepth 100000 in
theorem lifted (os : Os) (started : os.Started) (H : Type) (enc : TypeId × Value → H) :
    ReturnsInHanded {} Tryz.checked os 4 .any (Rows.reachRunsSpec.pre6 enc Tryz.prog Tryz.f4 Rows.reachRunsRow.domain false) (Rows.reachRunsSpec.post enc Tryz.prog Tryz.f4 false true false false) := by
  refine returnsInHanded_of_change_sized (C := Tryz.checked) own started (by kernel_rfl) Tryz.func4
    (ChangeSpec.witness6 (enc := enc) (C := Tryz.checked) false ⟨#[], #[.agg #[.slice none 0 0, .slice none 0 0, .slice none 0 0, .int .i64 0], .int .i64 0, .agg #[.slice none 0 0, .bool false, .int .i64 0, .int .i64 0, .int .i64 0], .int .i64 0, .slice none 0 0], []⟩ 8 (by kernel_rfl) (by kernel_rfl) (by kernel_rfl) (by kernel_rfl)) ?_
  intro W base args ds gs before hval0 hW hcnd hsz0 _
  have hval : ∀ (j : Nat) t v, Tryz.f4.params[j]? = some t → args[j]? = some v → Value.okWide Tryz.prog W .any base t v := hval0
  have hW' := hW
  obtain ⟨p, q, hA0, hV, rfl, hfz, hnd⟩ := hW
  have hA : DataW.TrodAll enc Tryz.prog W 0 (fun _ => true) true Tryz.f4.params.toList args.toList ds p := hA0
  rw [Tryz.params4] at hA hval
  obtain ⟨v0, vs0, d0, ds0, p0, q0, hargs, rfl, rfl, h0, r0⟩ := trodAll_cons hA
  obtain ⟨v1, vs1, d1, ds1, p1, q1, rfl, rfl, rfl, h1, r1⟩ := trodAll_cons r0
  obtain ⟨v2, vs2, d2, ds2, p2, q2, rfl, rfl, rfl, h2, r2⟩ := trodAll_cons r1
  obtain ⟨v3, vs3, d3, ds3, p3, q3, rfl, rfl, rfl, h3, r3⟩ := trodAll_cons r2
  obtain ⟨v4, vs4, d4, ds4, p4, q4, rfl, rfl, rfl, h4, r4⟩ := trodAll_cons r3
  obtain ⟨rfl, rfl, rfl⟩ := trodAll_nil r4
  obtain rfl : args = #[v0, v1, v2, v3, v4] := by cases args; simp_all
  obtain ⟨rfl, rfl⟩ := trodVars_none hV
  obtain ⟨x0, y0, z0⟩ := Gv.open_prg h0
  have lt0 := fun x hx => (show ∀ x ∈ p0, x.block < W.heap.size from by obtain ⟨n, hn⟩ := h0; exact DataW.trod_lt n _ _ _ hn) x hx
  obtain ⟨x1, rfl, rfl, rfl, y1⟩ := open_int Tryz.underlying3 (hval 1 3 v1 rfl rfl) h1
  obtain ⟨x2, y2, z2⟩ := Gv.open_local h2
  have lt2 := fun x hx => (show ∀ x ∈ p2, x.block < W.heap.size from by obtain ⟨n, hn⟩ := h2; exact DataW.trod_lt n _ _ _ hn) x hx
  obtain ⟨x3, rfl, rfl, rfl, y3⟩ := open_int Tryz.underlying3 (hval 3 3 v3 rfl rfl) h3
  obtain ⟨x4, y4, z4⟩ := Gv.open_ints (okWide_slice Tryz.underlying35 (hval 4 35 v4 rfl rfl)) h4
  have lt4 := fun x hx => (show ∀ x ∈ p4, x.block < W.heap.size from by obtain ⟨n, hn⟩ := h4; exact DataW.trod_lt n _ _ _ hn) x hx
  obtain ⟨hent, hc⟩ := Gv.reachRuns_pc x0 x1 x2 x3 x4
  refine (hc (Gv.Kw W) W #[v0, .int .i64 x1, v2, .int .i64 x3, v4] (fun _ _ _ h => h) rfl ?_).mono ?_
  · intro j y u hy hu
    match j, hy, hu with
    | 0, hy, hu => cases hy; cases hu; exact z0
    | 1, hy, hu => cases hy; cases hu; exact .int _ _
    | 2, hy, hu => cases hy; cases hu; exact z2
    | 3, hy, hu => cases hy; cases hu; exact .int _ _
    | 4, hy, hu => cases hy; cases hu; exact z4
    | j + 5, hy, hu => simp at hy
  · rintro e W' ⟨v, rfl, bel, hr⟩
    cases hr
    exact ⟨_, rfl, _, _, _, [], _, [], hW', trodAll_mk1 (shut_bool Tryz.underlying4 _), (trodAll_cons_mk (bel.trod (by kernel_rfl) (by kernel_rfl) (by decide) h0 lt0) (trodAll_cons_mk (shut_int Tryz.underlying3 y1) (trodAll_cons_mk (bel.trod (by kernel_rfl) (by kernel_rfl) (by decide) h2 lt2) (trodAll_cons_mk (shut_int Tryz.underlying3 y3) (trodAll_cons_mk (bel.trod (by kernel_rfl) (by kernel_rfl) (by decide) h4 lt4) trodAll_mk0))))), rfl, bel.frame _, fun h => by cases h⟩
theorem over : Rows.reachRunsRow.holds Tryz.pinned (OpenSpec.ofChange Rows.reachRunsSpec) :=
  OpenClaim.holds_of_wide 4 Tryz.f4 rfl rfl rfl rfl rfl rfl rfl ⟨rfl, rfl, rfl, rfl, rfl⟩ rfl rfl rfl rfl rfl (by kernel_rfl) Tryz.func4
    (by show joinedFacts Tryz.prog _ _ _ _ = true; unfold joinedFacts; rw [Gv.the_make, Gv.the_lifts, Gv.the_may]; kernel_rfl) (of_decide_eq_true (by kernel_rfl)) (by unfold Func.isWrapper; first | (rw [if_pos (by decide +kernel)]; kernel_rfl) | (rw [if_neg (by decide +kernel)]; exact ⟨rfl, rfl⟩))
    (fun os started H enc _ => lifted os started H enc)
theorem proved : Rows.ReachRunsSaid := over
end Go.Proofs.YtpaeffcpdpblcaaGreat.reachRuns
namespace Go.Proofs.YtpaeffcpdpblcaaGreat
/-- The row, under a short name, for the claim. -/
theorem reachRuns_holds : Rows.ReachRunsSaid := reachRuns.proved
end Go.Proofs.YtpaeffcpdpblcaaGreat
