/- Texts of this proof, one behind the other. What is proved, and on which conditions, stands ahead of each. -/
import Derived.Below
import Derived.Calls

set_option linter.unusedVariables false
namespace Go.Gv
open Go.RowKit
def gset : List Nat := [0, 4]
def spaceTab : List Int := (List.range 256).map fun c => if (9 <= c /\ c <= 13) \/ c = 32 then 1 else 0
def spaceCells : Array Value := (spaceTab.map fun z => Value.int .u8 z).toArray
def gok (F : Nat -> Option Obj) : Prop := (∃ a t p m, F 0 = some (.cells a t p) /\ a[0]? = some (.int .i64 m)) /\ ∃ t p, F 4 = some (.cells spaceCells t p)
theorem gok_eq {F F' : Nat -> Option Obj} (h : ∀ g ∈ gset, F' g = F g) (k : gok F) : gok F' := by
 unfold gok at *
 rw [h 0 (by simp [gset]), h 4 (by simp [gset])]
 exact k
structure GlB (B : Nat) (W : World) : Prop where
 le : B <= W.heap.size
 lt : ∀ g ∈ gset, g < B
 ok : gok (fun g => W.heap[g]?)
theorem GlB.at {B : Nat} {W w : World} (h : GlB B W) (hW : Below B W w) : GlB w.heap.size w :=
 ⟨Nat.le_refl _, fun g hg => Nat.lt_of_lt_of_le (h.lt g hg) (Nat.le_trans h.le hW.size), gok_eq (fun g hg => hW.block g (h.lt g hg)) h.ok⟩
end Go.Gv
