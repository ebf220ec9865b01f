/- Texts of this proof, one behind the other. What is proved, and on which conditions, stands ahead of each. -/
import Derived.Test.YthidhohdcjojhaaGreatDoorProg
import Derived.Test.YthidhohdcjojhaaGreatDoorM25980d8d
import Derived.Test.YthidhohdcjojhaaGreatDoorM170220fe

set_option linter.unusedVariables false
set_option linter.unusedSimpArgs false
namespace Go.Gv
open Go.Proofs
theorem rel_ptr {E : Env} {nm st sz i off : Nat} {v : Value} (h : Rel E (.ptr nm st sz i off) v) : v = .pointer (some ⟨(E.m st).1, (E.m st).2 + i * sz + off, none⟩) /\ E.u st := by cases h; exact ⟨rfl, by assumption⟩
theorem rel_int {E : Env} {k : IntKind} {n : Int} {v : Value} (h : Rel E (.int k n) v) : v = .int k n := by cases h; rfl
end Go.Gv
