/- A call by the callee's own abstract code. No condition beyond those that the law names. -/
import Derived.Test.YthhgjncefjnogaaGv20
set_option linter.unusedVariables false
set_option linter.unusedSimpArgs false
namespace Go.Gv
open Go.RowKit

/-- How a callee's code ends: with a value and a state, the caller's slots as they were. -/
def EndsK (al : List ARes) (t : Nat → AV) (k : AV → St → Prop) : Ex → St → Prop
  | .exit _, _ => False
  | _, S => ∃ v, resOf S al = some v ∧ k v { S with t := t }
@[simp] theorem endsK_normal (al : List ARes) (t : Nat → AV) (k : AV → St → Prop) (S : St) : EndsK al t k .normal S = ∃ v, resOf S al = some v ∧ k v { S with t := t } := rfl
@[simp] theorem endsK_ret (al : List ARes) (t : Nat → AV) (k : AV → St → Prop) (S : St) : EndsK al t k .ret S = ∃ v, resOf S al = some v ∧ k v { S with t := t } := rfl
@[simp] theorem endsK_exit (al : List ARes) (t : Nat → AV) (k : AV → St → Prop) (S : St) (i : Nat) : EndsK al t k (.exit i) S = False := rfl

theorem callV {P : Program} {f base : Nat} {hint : List (Nat × Nat)} {name : String} {n : Nat} {ac : AC} {al : List ARes} (h : getF P f base hint = some (name, n, ac, al)) (hname : name ≠ "runtime.NumGoroutine")
    {caps vals : List AV} {S : St} {k : AV → St → Prop} {u : Dep k} (hn : (vals ++ caps).length ≤ n)
    (hV : V P ac (EndsK al S.t k) ⟨fun t => (vals ++ caps).getD t (.tup []), S.blk, S.tok, S.clk⟩) : CallG P (.fn f caps) vals S k u := by
  unfold getF at h
  rcases hf : P.funcs[f]? with _ | fn
  · rw [hf] at h; simp at h
  rw [hf] at h
  simp only [Option.bind_some] at h
  rcases hb : fn.body with _ | c
  · rw [hb] at h; simp at h
  rw [hb] at h
  simp only [Option.bind_some] at h
  rcases hc : cCode P fn.ntmps base hint c with _ | ac'
  · rw [hc] at h; simp at h
  rw [hc] at h
  simp only [Option.bind_some] at h
  rcases hal : cRes P fn.ntmps fn.results.toList with _ | al'
  · rw [hal] at h; simp at h
  rw [hal] at h
  simp only [Option.map_some, Option.some.injEq, Prod.mk.injEq] at h
  obtain ⟨h1, h2, h3, h4⟩ := h
  subst h1; subst h2; subst h3; subst h4
  refine ⟨f, caps, rfl, ⟨fn, hf, by simp [hb], hname⟩, fun E B W w args H hW hB hu hsz hrel => ?_⟩
  have C : Conc ⟨E.K, E, S.clk⟩ E B W fn.ntmps ⟨fun t => (vals ++ caps).getD t (.tup []), S.blk, S.tok, S.clk⟩ { tmps := args ++ Array.replicate (fn.ntmps - args.size) undef, defers := [] } w := by
    refine ⟨H, hW, hB, rfl, ?_, ?_, fun _ _ _ => rfl, .refl _, fun s hs => .inl hs, Nat.le_refl _⟩
    · simp; omega
    · intro t ht
      show Rel E ((vals ++ caps).getD t (.tup [])) _
      by_cases hta : t < (vals ++ caps).length
      · have e1 : (vals ++ caps)[t]? = some (vals ++ caps)[t] := List.getElem?_eq_getElem hta
        have e2 : args[t]? = some args[t] := Array.getElem?_eq_getElem (by omega)
        have : (args ++ Array.replicate (fn.ntmps - args.size) undef).getD t undef = args[t] := by
          rw [Array.getD_eq_getD_getElem?, Array.getElem?_append_left (by omega), e2]; rfl
        rw [this, List.getD_eq_getElem?_getD, e1]
        exact hrel t _ _ e1 e2
      · have e1 : (vals ++ caps).getD t (.tup []) = .tup [] := by rw [List.getD_eq_getElem?_getD, List.getElem?_eq_none (by omega)]; rfl
        have : (args ++ Array.replicate (fn.ntmps - args.size) undef).getD t undef = undef := by
          rw [Array.getD_eq_getD_getElem?, Array.getElem?_append_right (by omega), Array.getElem?_replicate]
          split <;> rfl
        rw [this, e1]
        exact .tup [] #[] rfl (by simp)
  refine calls_of_wp hf hb (wp_mono (V_sound base hint c ac' hc _ _ hV E _ w C (fun s hs => hu s hs)) ?_)
  rintro e a' w' ⟨E', S', C', hu', hk⟩
  have fin : (∃ v, resOf S' al' = some v ∧ k v { S' with t := S.t }) → a'.defers = [] ∧ ∃ v, (results fn a'.tmps).run P w' = .ok v w' ∧ ∃ v' E'' r S'', Ending.returned v = .returned v' ∧ E.le E'' ∧ HConc E'' B S''.h w' ∧ Below B W w' ∧ (∀ b o, b < B → E''.K b o = E.K b o) ∧
      (∀ s, E''.u s → (E.u s ∨ S.clk ≤ s) ∧ s < S''.clk) ∧ S.clk ≤ S''.clk ∧ S''.t = S.t ∧ Rel E'' r v' ∧ k r S'' := by
    rintro ⟨v, hv, hkv⟩
    obtain ⟨u, hu2, hru⟩ := results_ok C' fn al' hal v hv
    exact ⟨C'.df, u, hu2, u, E', v, { S' with t := S.t }, rfl, C'.le0, C'.H, C'.bel, C'.kb, fun s hs => ⟨C'.u0 s hs, hu' s hs⟩, C'.ck, rfl, hru, hkv⟩
  cases e with
  | normal => exact fin hk
  | ret => exact fin hk
  | exit i => exact hk.elim
  | goto l => exact hk.elim
  | panic ch => exact hk.elim
  | outgrown => exact hk.elim

end Go.Gv
