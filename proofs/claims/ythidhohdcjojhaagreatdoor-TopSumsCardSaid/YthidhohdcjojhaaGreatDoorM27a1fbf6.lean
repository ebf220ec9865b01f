/- Texts of this proof, one behind the other. What is proved, and on which conditions, stands ahead of each. -/
import Derived.Test.YthidhohdcjojhaaGreatDoorProg
import Derived.Test.YthidhohdcjojhaaGreatDoorM265237b0

set_option linter.unusedVariables false
set_option linter.unusedSimpArgs false
namespace Go.Gv
open Go.Proofs
theorem entersF (f : Nat) (fn : Func) (hf : Tryz.prog.funcs[f]? = some fn) (hb : fn.body.isSome = true) (hn : (fn.name == "runtime.NumGoroutine") = false) : enters Tryz.prog f :=
 ⟨fn, hf, hb, fun e => by rw [e] at hn; simp at hn⟩
theorem args1 {args : Array Value} (h : args.size = 1) : ∃ v, args = #[v] :=
 ⟨args[0], by apply Array.ext <;> simp [h]; rintro i rfl; rfl⟩
theorem args2 {args : Array Value} (h : args.size = 2) : ∃ v0 v1, args = #[v0, v1] :=
 ⟨args[0], args[1], by apply Array.ext <;> simp [h]; intro i hi; rcases i with _ | _ | i <;> simp; omega⟩
end Go.Gv
