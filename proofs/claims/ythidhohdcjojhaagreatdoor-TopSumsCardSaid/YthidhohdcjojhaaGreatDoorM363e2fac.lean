/- Texts of this proof, one behind the other. What is proved, and on which conditions, stands ahead of each. -/
import Derived.Test.YthidhohdcjojhaaGreatDoorProg
import Derived.Test.YthidhohdcjojhaaGreatDoorM81f92e5
import Derived.Test.YthidhohdcjojhaaGreatDoorM27a1fbf6
import Derived.Test.YthidhohdcjojhaaGreatDoorM170220fe
import Derived.RangeFuncNested
import Derived.RangeFuncBound
import Derived.RangeFuncCalls
import Derived.RangeFuncLeaves
import Derived.Shelf.Abstract
import Derived.Shelf.RegionOpen
import Derived.WalkKit
import Derived.OwnWalkIn
import Derived.TacticsInMore
import Derived.LoopNIn
import Derived.LoopIn

set_option linter.unusedVariables false
set_option linter.unusedSimpArgs false
namespace Go.Gv
open Go.Proofs
open Go.RowKit Go.Shelf Go.Proofs
attribute [local go_sem] Oper.semAt_some
set_option maxRecDepth 100000 in
set_option maxHeartbeats 2000000 in
theorem vals_in (m : Nat) (hm : 1 <= m) (w0 : World) (fn0 : FuncId) (sv0 : Value) (Bs l D : Nat) (hBl : Bs ≠ l) (hDl : D ≠ l) (hDB : D ≠ Bs) (h0B : w0.heap.size <= Bs) (h0l : w0.heap.size <= l)
   (bp bo b off cap : Nat) (zs : List Int) (hlz : zs.length <= 1000) (hbp : bp < w0.heap.size) (hb : b < w0.heap.size) (hbx : w0.cell? ⟨bp, bo, none⟩ = some (.slice (some ⟨b, off, none⟩) zs.length cap)) (hc : ∀ j, j < zs.length -> w0.cell? ⟨b, off + j, none⟩ = some (.int .i64 (zs[j]?.getD 0)))
   (W : World) (h0 : AnyZI.ApAt Tryz.apL_ren w0 fn0 sv0 Bs l D [] W) :
   CallsIn Fence.wide m Tryz.prog 76 #[.func (.yield l) #[] #[], .pointer (some ⟨bp, bo, none⟩)] W fun e W' => (∃ v, e = .returned v) /\ AnyZI.ApAt Tryz.apL_ren w0 fn0 sv0 Bs l D zs W' := by
 have hbx' := (h0.below.cell (p := ⟨bp, bo, none⟩) hbp).trans hbx
 refine callsIn_of_wp Tryz.func76 rfl trivial ?_ rfl
 simp only [Tryz.ntmps76, List.size_toArray, List.length_cons, List.length_nil, Nat.reduceAdd, Nat.reduceSub, Array.replicate_succ, Array.replicate_zero, List.push_toArray, List.append_toArray, List.nil_append, List.cons_append]
 gi_wp2
 gi_loopw [7] (fun i wr => ∃ k : Nat, k <= zs.length /\ i = .int .i64 k /\ AnyZI.ApAt Tryz.apL_ren w0 fn0 sv0 Bs l D (zs.take k) wr)
   (fun i _ => zs.length - (match i with | .int _ n => n.toNat | _ => 0))
 case atStart => exact ⟨0, Nat.zero_le _, rfl, by simpa using h0⟩
 case round =>
   obtain ⟨k, hk, rfl, hJs⟩ := hrel
   have hcx : k < zs.length -> wr.cell? ⟨b, off + k, none⟩ = some (.int .i64 (zs[k]?.getD 0)) := fun h => (hJs.below.cell (p := ⟨b, off + k, none⟩) hb).trans (hc k h)
   by_cases hlt : k < zs.length
   . obtain ⟨fn, tmps, assign, body, hy, hR⟩ := AnyZI.apYield Tryz.apL Fence.wide (m - 1) w0 fn0 trivial sv0 Bs l D hBl hDl hDB h0B h0l 1000 (by decide) (by decide) (zs.take k) zs[k] wr hJs (by rw [List.length_take]; omega)
     have hcx' := hcx hlt
     have hgz : zs[k]?.getD 0 = zs[k] := by simp [hlt]
     rw [hgz] at hcx'
     gi_wp2
     refine hR.mono ?_
     rintro e W3 ⟨rfl, hJ3, hk3⟩
     gi_wp2
     go_roundw
     case rel =>
       refine ⟨k + 1, by omega, by simp, ?_⟩
       have : zs.take (k + 1) = zs.take k ++ [zs[k]] := List.take_succ_eq_append_getElem hlt
       rw [this]
       exact hJ3
     case measure => simp; omega
   . obtain rfl : k = zs.length := by omega
     rw [List.take_length] at hJs
     gi_wp2
     go_end0
     exact ⟨⟨_, rfl⟩, hJs⟩
set_option maxRecDepth 100000 in
set_option maxHeartbeats 2000000 in
theorem appSeq_in (bp bo b off cap : Nat) (zs : List Int) (hlz : zs.length <= 1000) (w : World) (hbp : bp < w.heap.size) (hb : b < w.heap.size) (hbx : w.cell? ⟨bp, bo, none⟩ = some (.slice (some ⟨b, off, none⟩) zs.length cap)) (hc : ∀ j, j < zs.length -> w.cell? ⟨b, off + j, none⟩ = some (.int .i64 (zs[j]?.getD 0))) :
   CallsIn Fence.wide 3 Tryz.prog 105 #[.slice none 0 0, .func (.func 76) #[] #[.pointer (some ⟨bp, bo, none⟩)]] w fun e w' => ∃ v, e = .returned v /\ w'.ownsRow w.heap.size (Tryz.apL_ren.t 26) 1 v zs.length (zs.map encZ) /\ (v = .slice none 0 0 ↔ zs = []) /\ Below w.heap.size w w' := by
 obtain ⟨ρ, hρ⟩ : ∃ ρ, ρ = Tryz.apL_ren := ⟨_, rfl⟩
 have L0 := Tryz.apL
 rw [<- hρ] at L0
 have L : Go.Proofs.SlLaysZI.n11 Tryz.prog ρ := L0
 obtain ⟨lb, hlb⟩ : ∃ lb : Array Value, lb = #[.pointer (some ⟨bp, bo, none⟩)] := ⟨_, rfl⟩
 obtain ⟨g, hg⟩ : ∃ g : Nat, g = 76 := ⟨_, rfl⟩
 have eg : ∀ args w, (callFunc g args).run Tryz.prog w = .ok (.enter g args) w := by
   rw [hg]; exact enters_of Tryz.func76 (by kernel_rfl) rfl
 rw [<- hρ, <- hlb, <- hg]
 have mixed := L.mixed; have t0 := L.t0; have a0 := L.a0; have z0 := L.z0; have v0 := L.v0; have t24 := L.t24; have a24 := L.a24; have z24 := L.z24; have v24 := L.v24; have t26 := L.t26; have a26 := L.a26; have z26 := L.z26; have v26 := L.v26; have t28 := L.t28; have a28 := L.a28; have z28 := L.z28; have v28 := L.v28
 have hne : ρ.t 24 ≠ ρ.t 26 := fun e => by have h := L.t24; rw [e, L.t26] at h; cases h
 have u0 := run_underlying L.t0; have u24 := run_underlying L.t24; have u26 := run_underlying L.t26; have u28 := run_underlying L.t28
 obtain ⟨_, _, FG⟩ := L.f11
 have e11 : ρ.f 11 = 105 := by rw [hρ]; rfl
 rw [<- e11]
 have hvals : ∀ (fn0 : FuncId) (sv0 : Value) (Bs l D : Nat), Bs ≠ l -> D ≠ l -> D ≠ Bs -> w.heap.size <= Bs -> w.heap.size <= l -> ∀ W : World, AnyZI.ApAt ρ w fn0 sv0 Bs l D [] W ->
     CallsIn Fence.wide (3 - 1) Tryz.prog g (#[.func (.yield l) #[] #[]] ++ lb) W fun e W' => (∃ v, e = .returned v) /\ AnyZI.ApAt ρ w fn0 sv0 Bs l D zs W' := by
   rw [hg, hlb, hρ]
   exact fun fn0 sv0 Bs l D q1 q2 q3 q4 q5 W h0 => vals_in 2 (by omega) w fn0 sv0 Bs l D q1 q2 q3 q4 q5 bp bo b off cap zs hlz hbp hb hbx hc W h0
 clear hρ hg hlb
 have hro : Fence.wide.round = none := rfl
 refine callsIn_of_wp_marks FG rfl trivial ?_ rfl
 simp only [SlBodyZ.n11_ntmps ρ, List.size_toArray, List.length_cons, List.length_nil, Nat.reduceAdd, Nat.reduceSub, Array.replicate_succ, Array.replicate_zero, List.push_toArray, List.append_toArray, List.nil_append, List.cons_append]
 gi_wp2
 refine wpIn_rangeFunc ?_
 intro fn hfn
 obtain ⟨W0, hW0⟩ : ∃ W0, w.alloc (.cells #[.slice none 0 0] (ρ.t 24)) = W0 := ⟨_, rfl⟩
 have hs0 : W0.heap.size = w.heap.size + 1 := by rw [<- hW0]; simp
 have hv0 : W0.heap[w.heap.size]? = some (.cells #[.slice none 0 0] (ρ.t 24) (0, 0)) := by rw [<- hW0]; exact World.alloc_heap_new w _
 have hb0 : Below w.heap.size w W0 := by rw [<- hW0]; exact (Below.refl _ w).alloc (Nat.le_refl _) _
 rw [hW0]
 obtain ⟨W1, hW1⟩ : ∃ W1, (W0.alloc (.deferred (some []))).alloc (.loop (AnyZI.apRec ρ fn (.func (.func g) #[] lb) w.heap.size W0.heap.size .ready none)) = W1 := ⟨_, rfl⟩
 have hold : ∀ k, k < W0.heap.size -> W1.heap[k]? = W0.heap[k]? := fun k hk => by
   rw [<- hW1]; exact (Below.heap_alloc _ _ k (by simp; omega)).trans (Below.heap_alloc _ _ k hk)
 have hb1 : Below w.heap.size w W1 := by rw [<- hW1]; exact (hb0.alloc hb0.size _).alloc (by have := hb0.size; simp; omega) _
 have hs1 : W1.heap.size = W0.heap.size + 2 := by rw [<- hW1]; simp
 have hM : AnyZI.ApAt ρ w fn (.func (.func g) #[] lb) w.heap.size (W0.heap.size + 1) W0.heap.size [] W1 :=
   ⟨⟨_, (hold w.heap.size (by omega)).trans hv0, ⟨rfl, .inl ⟨rfl, rfl⟩⟩, by simp⟩,
    by rw [<- hW1]; have := World.alloc_heap_new (W0.alloc (.deferred (some []))) (.loop (AnyZI.apRec ρ fn (.func (.func g) #[] lb) w.heap.size W0.heap.size .ready none)); rwa [World.size_alloc] at this,
    by rw [<- hW1]; exact (Below.heap_alloc _ _ _ (by simp)).trans (World.alloc_heap_new W0 _), hb1⟩
 refine ⟨W0.heap.size + 1, [{ target := .collected W0.heap.size, args := #[] }], W1, { target := .fn (.func g) lb, args := #[.func (.yield (W0.heap.size + 1)) #[] #[]] }, W1, g,
   #[.func (.yield (W0.heap.size + 1)) #[] #[]] ++ lb, W1, ?_, ?_, ?_, ?_, fun _ => by omega, ?_⟩
 . rw [<- hW1]; exact run_enterLoop_outer _ _ _ _ _
 . simp [resolve, go_sem]
 . intro f' hf'; simp [Target.leads] at hf'; subst hf'; trivial
 . simp [invoke, go_sem, eg]
 . refine (hvals fn (.func (.func g) #[] lb) w.heap.size (W0.heap.size + 1) W0.heap.size (by omega) (by omega) (by omega) (Nat.le_refl _) (by omega) W1 hM).mono ?_
   rintro e W2 ⟨⟨v0, rfl⟩, h2⟩
   obtain ⟨v, hv, hrow, hnil⟩ := h2.box
   have hend := run_endLoop (P := Tryz.prog) h2.L (by simp [AnyZI.apRec])
   obtain ⟨W3, hW3⟩ : ∃ W3, W2.putObj (W0.heap.size + 1) (.loop { AnyZI.apRec ρ fn (.func (.func g) #[] lb) w.heap.size W0.heap.size .ready none with state := .exhausted }) = W3 := ⟨_, rfl⟩
   rw [hW3] at hend
   have hg3 : W2.grownBy W3 (some (W0.heap.size + 1)) := by rw [<- hW3]; exact grownBy_putObj_a _ _ _
   have hv3 : W3.heap[w.heap.size]? = some (.cells #[v] (ρ.t 24) (0, 0)) := by rw [<- hW3]; exact (World.putObj_heap_other (by omega)).trans hv
   have hK3 : W3.heap[W0.heap.size]? = some (.deferred (some [])) := by rw [<- hW3]; exact (World.putObj_heap_other (by omega)).trans h2.K
   have hrow3 := hrow.kept hg3 (ownsRow_ne_a hrow h2.L (fun cur e => by first | cases e | exact hne (Obj.cells.inj e).2.1))
   have hb3 : Below w.heap.size w W3 := h2.below.grown hg3 h2.below.size (fun k e => by cases e; omega)
   obtain ⟨hc3, hf3⟩ := cell_of_box_a hv3
   clear hW3
   refine ⟨none, W3, hend, ?_⟩
   gi_wp2
   rw [<- hs0]
   refine ⟨by simp, .inl ⟨_, _, rfl, run_takeDeferred hK3, ?_⟩⟩
   exact ⟨_, results_tmp rfl _ _ _, v, rfl, hrow3.kept (grownBy_putObj_a _ _ _) (ownsRow_ne_a hrow3 hK3 (fun cur e => by first | cases e | exact hne (Obj.cells.inj e).2.1)), hnil, hb3.grown (grownBy_putObj_a _ _ _) hb3.size (fun k e => by cases e; omega)⟩
end Go.Gv
