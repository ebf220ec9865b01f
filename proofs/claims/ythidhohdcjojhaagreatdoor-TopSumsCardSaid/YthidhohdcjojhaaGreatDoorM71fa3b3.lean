/- Texts of this proof, one behind the other. What is proved, and on which conditions, stands ahead of each. -/
import Derived.Test.YthidhohdcjojhaaGreatDoorRows
import Derived.Test.YthidhohdcjojhaaGreatDoorM181ae2e
import Derived.Lay
import Derived.LaidMore
import Derived.LaidLaws
import Derived.LaidHandle
import Derived.MakeChecks
import Derived.Handed
import Derived.Stop.Joined
import Derived.Lib.LaidU8

set_option linter.unusedVariables false
set_option linter.unusedSimpArgs false
namespace Go.Gv
open Go.Proofs
set_option linter.constructorNameAsVariable false
open Go.Proofs Go.Proofs.YthidhohdcjojhaaGreatDoor
theorem returns_shaped {H : Type} {enc : TypeId × Value -> H} {a : Assume} {C : Checked} {os : Os} {f : FuncId} {fn : Func} {s : ChangeSpec} {conds : List PathCond} {apart fresh handsOn again : Bool} {X : World -> Array Value -> Prop}
   (hX : ∀ (w w' : World) (args : Array Value), w.heap = w'.heap -> X w args -> X w' args)
   (own : ownKnob C.prog.godebug = none) (started : os.Started) (noInit : C.prog.inits.idxOf? f = none) (hfn : C.prog.funcs[f]? = some fn)
   (witness : ∃ (w : World) (tape : Tape) (i : Input), w.os = os /\ (w.forCall tape i).Shaped C.prog /\ i.vars = [] /\ Input.okWide C.prog (w.forCall tape i) .any w.heap.size f i /\
     ((s.pre enc C.prog fn conds apart (w.forCall tape i).memory i.args /\ X (w.forCall tape i).memory i.args) /\ sizedMet enc C.prog fn (OpenSpec.ofChange s) apart (w.forCall tape i).memory i.args) /\ a.holds C.prog (lone (Frame.enter C.prog f i.args .normal) [] (w.forCall tape i)))
   (contract : ∀ (W : World) (base : Nat) (args : Array Value) (ds gs : List (DataW H)) (before : List MemPlace),
     (∀ (j : Nat) t v, fn.params[j]? = some t -> args[j]? = some v -> Value.okWide C.prog W .any base t v) ->
     DataW.Whole enc C.prog fn.params.toList s.vars apart W args.toList ds gs before ->
     X W args -> W.ShapedOpen C.prog ->
     Calls C.prog f args W fun e W' => ∃ v, e = .returned v /\ s.post enc C.prog fn apart fresh handsOn again W args v W') :
   ReturnsInHanded a C os f .any (fun w args => (s.pre enc C.prog fn conds apart w args /\ X w args) /\ sizedMet enc C.prog fn (OpenSpec.ofChange s) apart w args) (s.post enc C.prog fn apart fresh handsOn again) := by
 refine returnsInHanded_of_calls own started noInit witness ?_
 intro w tape i _ hsh _ hok hpre hholds
 obtain ⟨_, _, _, fn', hfn', _, _, _, _, hval⟩ := hok
 have e : fn' = fn := Option.some.inj (hfn'.symm.trans hfn)
 subst e
 obtain ⟨⟨⟨ds, gs, before, hw, hc⟩, hx⟩, hz⟩ := hpre
 have hw' := DataW.Whole.of_heap (w' := w.forCall tape i) (by rfl) hw
 refine (contract (w.forCall tape i) w.heap.size i.args ds gs before hval hw' (hX _ _ _ (by rfl) hx) hsh).mono fun e W' ⟨v, he, hp⟩ => ?_
 subst he
 exact ChangeSpec.post_blind hp
noncomputable def theLaid : List (String × DataW Unit) := Rows.topFewerRow.laid
theorem space_data : (Rows.laid_strings_asciiSpace : DataW Unit) = Lib.tabData .u8 spaceTab := by kernel_rfl
theorem space_in : ("strings.asciiSpace", (Rows.laid_strings_asciiSpace : DataW Unit)) ∈ theLaid :=
 List.mem_of_getElem? (i := 7) (by kernel_rfl)
theorem space_block {W : World} (h : laidMetH Tryz.prog theLaid W) : ∃ t p, W.heap[4]? = some (.cells spaceCells t p) := by
 rw [MakeChecks.laidMetH_plain _ _ _ (by kernel_rfl)] at h
 obtain ⟨g, t, cs, fuel, p, hg, ht, hv, hd⟩ := Lib.laidMet.reads h space_in
 obtain rfl := Option.some.inj ((show Tryz.prog.globalNamed "strings.asciiSpace" = some 4 by kernel_rfl).symm.trans hg)
 have hgl := hg
 rw [space_data] at hd
 obtain ⟨u, hu⟩ : ∃ u, u = t := ⟨t, rfl⟩
 have e : (Tryz.prog.globals[4]?).map (·.type) = some 273 := by kernel_rfl
 obtain rfl := Option.some.inj (e.symm.trans ht)
 have hcs := Lib.cells_of_tab (k := .u8) (n := 256) (e := 5) (by kernel_rfl) (by kernel_rfl) (by kernel_rfl) (by kernel_rfl) hd
 unfold World.var? at hv
 rw [hg] at hv
 simp only [Option.bind_some] at hv
 split at hv
 . rename_i c t' q hW
   refine ⟨t', q, ?_⟩
   rw [hW]
   obtain rfl := Option.some.inj hv
   have : c = spaceCells := by
     unfold spaceCells
     rw [<- hcs]
   rw [this]
 . cases hv
theorem max_block {W : World} (h : W.ShapedOpen Tryz.prog) : ∃ a t p m, W.heap[0]? = some (.cells a t p) /\ a[0]? = some (.int .i64 m) := by
 obtain ⟨cs, h1, h2, h3⟩ := h.1 0 #[.int .i64 0] 3 (of_decide_eq_true (by kernel_rfl)) (by kernel_rfl)
 obtain ⟨ts, e1, _, e3⟩ := h3 (by kernel_rfl)
 have e1' : Tryz.prog.cellTypes Tryz.prog.depth 3 = some [3] := by kernel_rfl
 obtain rfl := Option.some.inj (e1'.symm.trans e1)
 have h2' : cs.size = 1 := h2
 obtain ⟨v, hc⟩ : ∃ v, cs[0]? = some v := by
   cases e : cs[0]? with
   | none => rw [Array.getElem?_eq_none_iff] at e; omega
   | some v => exact ⟨v, rfl⟩
 clear h h2 h3
 obtain ⟨u, hu, hk⟩ := e3 0 _ hc
 obtain rfl : 3 = u := by simpa using hu
 unfold Cell.ok at hk
 rw [show Tryz.prog.underlying 3 = some (.int .i64) from Tryz.underlying3] at hk
 cases v <;> simp at hk
 rename_i k m
 obtain ⟨rfl, _⟩ := hk
 exact ⟨cs, _, _, m, h1, hc⟩
theorem gl_of {W : World} (h : laidMetH Tryz.prog theLaid W) (hs : W.ShapedOpen Tryz.prog) : GlB W.heap.size W := by
 obtain ⟨t, p, h4⟩ := space_block h
 obtain ⟨a, t0, p0, m, h0, hm⟩ := max_block hs
 refine ⟨Nat.le_refl _, ?_, ⟨a, t0, p0, m, h0, hm⟩, t, p, h4⟩
 intro g hg
 have l4 : 4 < W.heap.size := by
   rcases Nat.lt_or_ge 4 W.heap.size with h | h
   . exact h
   . rw [Array.getElem?_eq_none h] at h4; cases h4
 have : g = 0 \/ g = 4 := by simpa [gset] using hg
 omega
noncomputable def theWorld (os : Os) : World := World.laidAll Tryz.prog os theLaid
theorem theWorld_shaped (os : Os) (args : Array Value) : ((theWorld os).forCall (fun _ _ => 0) ⟨#[], args, []⟩).Shaped Tryz.prog :=
 World.shaped_of_ZipB (by kernel_rfl) (by kernel_rfl)
theorem theWorld_met (os : Os) (args : Array Value) : laidMetH Tryz.prog theLaid ((theWorld os).forCall (fun _ _ => 0) ⟨#[], args, []⟩).memory := by
 rw [MakeChecks.laidMetH_plain _ _ _ (by kernel_rfl)]
 exact laidMet_laidAll _ (by kernel_rfl) (by kernel_rfl)
end Go.Gv
