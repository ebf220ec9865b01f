/- The law ProgCopies holds: it answers true, of every program and number. No condition. -/
import Derived.Test.YtpaeffcpdpblcaaRows
import Derived.Test.YtpaeffcpdpblcaaVk
import Derived.Test.YtpaeffcpdpblcaaM6508f07
import Derived.Test.YtpaeffcpdpblcaaM114ffd4b
import Derived.WalkKit
import Derived.ProofKit
import Derived.OpenShut
import Derived.ChangeOld
import Derived.Below
import Derived.SizedLaws
import Derived.Carry
namespace Go.Proofs.Ytpaeffcpdpblcaa.progCopies
open Go.ChangeShapes Go.WideShapes Go.ChangeAt Go.RowKit
set_option linter.unusedVariables false
theorem own : ownKnob Try.prog.godebug = none := by kernel_rfl
set_option maxRecDepth 100000 in
theorem lifted (os : Os) (started : os.Started) (H : Type) (enc : TypeId × Value → H) :
    ReturnsInHanded {} Try.checked os 3 .any (Rows.progCopiesSpec.pre6 enc Try.prog Try.f3 Rows.progCopiesRow.domain false) (Rows.progCopiesSpec.post enc Try.prog Try.f3 false true false false) := by
  refine returnsInHanded_of_change_sized (C := Try.checked) own started (by kernel_rfl) Try.func3
    (ChangeSpec.witness6 (enc := enc) (C := Try.checked) false ⟨#[], #[.agg #[.slice none 0 0, .slice none 0 0, .slice none 0 0, .int .i64 0], .int .i64 0], []⟩ 8 (by kernel_rfl) (by kernel_rfl) (by kernel_rfl) (by kernel_rfl)) ?_
  intro W base args ds gs before hval0 hW hcnd hsz0 _
  have hval : ∀ (j : Nat) t v, Try.f3.params[j]? = some t → args[j]? = some v → Value.okWide Try.prog W .any base t v := hval0
  have hW' := hW
  obtain ⟨p, q, hA0, hV, rfl, hfz, hnd⟩ := hW
  have hA : DataW.TrodAll enc Try.prog W 0 (fun _ => true) true Try.f3.params.toList args.toList ds p := hA0
  rw [Try.params3] at hA hval
  obtain ⟨v0, vs0, d0, ds0, p0, q0, hargs, rfl, rfl, h0, r0⟩ := trodAll_cons hA
  obtain ⟨v1, vs1, d1, ds1, p1, q1, rfl, rfl, rfl, h1, r1⟩ := trodAll_cons r0
  obtain ⟨rfl, rfl, rfl⟩ := trodAll_nil r1
  obtain rfl : args = #[v0, v1] := by cases args; simp_all
  obtain ⟨rfl, rfl⟩ := trodVars_none hV
  obtain ⟨x0, y0, z0⟩ := Gv.open_prg h0
  have lt0 := fun x hx => (show ∀ x ∈ p0, x.block < W.heap.size from by obtain ⟨n, hn⟩ := h0; exact DataW.trod_lt n _ _ _ hn) x hx
  obtain ⟨x1, rfl, rfl, rfl, y1⟩ := open_int Try.underlying3 (hval 1 3 v1 rfl rfl) h1
  obtain ⟨hent, hc⟩ := Gv.copies_pc x0 x1
  refine (hc (Gv.Kw W) W #[v0, .int .i64 x1] (fun _ _ _ h => h) rfl ?_).mono ?_
  · intro j y u hy hu
    match j, hy, hu with
    | 0, hy, hu => cases hy; cases hu; exact z0
    | 1, hy, hu => cases hy; cases hu; exact .int _ _
    | j + 2, hy, hu => simp at hy
  · rintro e W' ⟨v, rfl, bel, hr⟩
    cases hr
    exact ⟨_, rfl, _, _, _, [], _, [], hW', trodAll_mk1 (shut_bool Try.underlying4 _), (trodAll_cons_mk (bel.trod (by kernel_rfl) (by kernel_rfl) (by decide) h0 lt0) (trodAll_cons_mk (shut_int Try.underlying3 y1) trodAll_mk0)), rfl, bel.frame _, fun h => by cases h⟩
theorem over : Rows.progCopiesRow.holds Try.pinned (OpenSpec.ofChange Rows.progCopiesSpec) :=
  OpenClaim.holds_of_wide 3 Try.f3 rfl rfl rfl rfl rfl rfl rfl ⟨rfl, rfl, rfl, rfl, rfl⟩ rfl rfl rfl rfl rfl (by kernel_rfl) Try.func3
    (by show joinedFacts Try.prog _ _ _ _ = true; unfold joinedFacts; rw [Gv.the_make, Gv.the_lifts, Gv.the_may]; kernel_rfl) (of_decide_eq_true (by kernel_rfl)) (by unfold Func.isWrapper; first | (rw [if_pos (by decide +kernel)]; kernel_rfl) | (rw [if_neg (by decide +kernel)]; exact ⟨rfl, rfl⟩))
    (fun os started H enc _ => lifted os started H enc)
theorem proved : Rows.ProgCopiesSaid := over
end Go.Proofs.Ytpaeffcpdpblcaa.progCopies
namespace Go.Proofs.Ytpaeffcpdpblcaa
/-- The row, under a short name, for the claim. -/
theorem progCopies_holds : Rows.ProgCopiesSaid := progCopies.proved
end Go.Proofs.Ytpaeffcpdpblcaa
