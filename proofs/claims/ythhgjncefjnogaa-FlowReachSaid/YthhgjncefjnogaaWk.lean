/- The plain law under FlowReach: what the walk tells of its codes. No condition. -/
import Derived.Test.YthhgjncefjnogaaProg
import Derived.Test.YthhgjncefjnogaaWh
set_option linter.unusedVariables false
set_option linter.unusedSimpArgs false
namespace Go.Gv
open Go.Proofs

def pairC : Nat → List Ins
  | 0 => []
  | n + 1 => pairC n ++ [⟨8, 0⟩, ⟨2, 0⟩]
def pairW : Nat → List Int
  | 0 => []
  | n + 1 => pairW n ++ [0, 1]
def reachC (n m : Nat) (e : Bool) : List Ins := reps (pairC n ++ [if e = true then ⟨25, 0⟩ else ⟨20, (2 * n + 1 + m : Nat)⟩]) m ⟨2, 0⟩
def reachW (n m : Nat) (e : Bool) : List Int := reps (pairW n ++ [0]) m (-1) ++ [if e = true then -1 else 0]
set_option maxRecDepth 100000 in
theorem reach_law0 : ∀ (m : Fin 21) (e : Bool), depthsV (hdlP (reachC 0 m.val e)) 0 = (reachW 0 m.val e, 0) := by decide +kernel
set_option maxRecDepth 100000 in
theorem reach_law1 : ∀ (m : Fin 21) (e : Bool), depthsV (hdlP (reachC 1 m.val e)) 0 = (reachW 1 m.val e, 0) := by decide +kernel
set_option maxRecDepth 100000 in
theorem reach_law2 : ∀ (m : Fin 21) (e : Bool), depthsV (hdlP (reachC 2 m.val e)) 0 = (reachW 2 m.val e, 0) := by decide +kernel
set_option maxRecDepth 100000 in
theorem reach_law3 : ∀ (m : Fin 21) (e : Bool), depthsV (hdlP (reachC 3 m.val e)) 0 = (reachW 3 m.val e, 0) := by decide +kernel
set_option maxRecDepth 100000 in
theorem reach_law4 : ∀ (m : Fin 21) (e : Bool), depthsV (hdlP (reachC 4 m.val e)) 0 = (reachW 4 m.val e, 0) := by decide +kernel
set_option maxRecDepth 100000 in
theorem reach_law5 : ∀ (m : Fin 21) (e : Bool), depthsV (hdlP (reachC 5 m.val e)) 0 = (reachW 5 m.val e, 0) := by decide +kernel
set_option maxRecDepth 100000 in
theorem reach_law6 : ∀ (m : Fin 21) (e : Bool), depthsV (hdlP (reachC 6 m.val e)) 0 = (reachW 6 m.val e, 0) := by decide +kernel
set_option maxRecDepth 100000 in
theorem reach_law7 : ∀ (m : Fin 21) (e : Bool), depthsV (hdlP (reachC 7 m.val e)) 0 = (reachW 7 m.val e, 0) := by decide +kernel
set_option maxRecDepth 100000 in
theorem reach_law8 : ∀ (m : Fin 21) (e : Bool), depthsV (hdlP (reachC 8 m.val e)) 0 = (reachW 8 m.val e, 0) := by decide +kernel
set_option maxRecDepth 100000 in
theorem reach_law9 : ∀ (m : Fin 21) (e : Bool), depthsV (hdlP (reachC 9 m.val e)) 0 = (reachW 9 m.val e, 0) := by decide +kernel
set_option maxRecDepth 100000 in
theorem reach_law10 : ∀ (m : Fin 21) (e : Bool), depthsV (hdlP (reachC 10 m.val e)) 0 = (reachW 10 m.val e, 0) := by decide +kernel
set_option maxRecDepth 100000 in
theorem reach_law11 : ∀ (m : Fin 21) (e : Bool), depthsV (hdlP (reachC 11 m.val e)) 0 = (reachW 11 m.val e, 0) := by decide +kernel
set_option maxRecDepth 100000 in
theorem reach_law12 : ∀ (m : Fin 21) (e : Bool), depthsV (hdlP (reachC 12 m.val e)) 0 = (reachW 12 m.val e, 0) := by decide +kernel
set_option maxRecDepth 100000 in
theorem reach_law13 : ∀ (m : Fin 21) (e : Bool), depthsV (hdlP (reachC 13 m.val e)) 0 = (reachW 13 m.val e, 0) := by decide +kernel
set_option maxRecDepth 100000 in
theorem reach_law14 : ∀ (m : Fin 21) (e : Bool), depthsV (hdlP (reachC 14 m.val e)) 0 = (reachW 14 m.val e, 0) := by decide +kernel
set_option maxRecDepth 100000 in
theorem reach_law15 : ∀ (m : Fin 21) (e : Bool), depthsV (hdlP (reachC 15 m.val e)) 0 = (reachW 15 m.val e, 0) := by decide +kernel
set_option maxRecDepth 100000 in
theorem reach_law16 : ∀ (m : Fin 21) (e : Bool), depthsV (hdlP (reachC 16 m.val e)) 0 = (reachW 16 m.val e, 0) := by decide +kernel
set_option maxRecDepth 100000 in
theorem reach_law17 : ∀ (m : Fin 21) (e : Bool), depthsV (hdlP (reachC 17 m.val e)) 0 = (reachW 17 m.val e, 0) := by decide +kernel
set_option maxRecDepth 100000 in
theorem reach_law18 : ∀ (m : Fin 21) (e : Bool), depthsV (hdlP (reachC 18 m.val e)) 0 = (reachW 18 m.val e, 0) := by decide +kernel
set_option maxRecDepth 100000 in
theorem reach_law19 : ∀ (m : Fin 21) (e : Bool), depthsV (hdlP (reachC 19 m.val e)) 0 = (reachW 19 m.val e, 0) := by decide +kernel
set_option maxRecDepth 100000 in
theorem reach_law20 : ∀ (m : Fin 21) (e : Bool), depthsV (hdlP (reachC 20 m.val e)) 0 = (reachW 20 m.val e, 0) := by decide +kernel
theorem reach_law (n m : Nat) (hn : n ≤ 20) (hm : m ≤ 20) (e : Bool) : depthsV (hdlP (reachC n m e)) 0 = (reachW n m e, 0) := by
  match n, hn with
  | 0, _ => exact reach_law0 ⟨m, by omega⟩ e
  | 1, _ => exact reach_law1 ⟨m, by omega⟩ e
  | 2, _ => exact reach_law2 ⟨m, by omega⟩ e
  | 3, _ => exact reach_law3 ⟨m, by omega⟩ e
  | 4, _ => exact reach_law4 ⟨m, by omega⟩ e
  | 5, _ => exact reach_law5 ⟨m, by omega⟩ e
  | 6, _ => exact reach_law6 ⟨m, by omega⟩ e
  | 7, _ => exact reach_law7 ⟨m, by omega⟩ e
  | 8, _ => exact reach_law8 ⟨m, by omega⟩ e
  | 9, _ => exact reach_law9 ⟨m, by omega⟩ e
  | 10, _ => exact reach_law10 ⟨m, by omega⟩ e
  | 11, _ => exact reach_law11 ⟨m, by omega⟩ e
  | 12, _ => exact reach_law12 ⟨m, by omega⟩ e
  | 13, _ => exact reach_law13 ⟨m, by omega⟩ e
  | 14, _ => exact reach_law14 ⟨m, by omega⟩ e
  | 15, _ => exact reach_law15 ⟨m, by omega⟩ e
  | 16, _ => exact reach_law16 ⟨m, by omega⟩ e
  | 17, _ => exact reach_law17 ⟨m, by omega⟩ e
  | 18, _ => exact reach_law18 ⟨m, by omega⟩ e
  | 19, _ => exact reach_law19 ⟨m, by omega⟩ e
  | 20, _ => exact reach_law20 ⟨m, by omega⟩ e
  | n + 21, h => omega

end Go.Gv
