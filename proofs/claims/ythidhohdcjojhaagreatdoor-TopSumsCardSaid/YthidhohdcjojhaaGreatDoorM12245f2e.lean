/- Texts of this proof, one behind the other. What is proved, and on which conditions, stands ahead of each. -/
import Derived.Test.YthidhohdcjojhaaGreatDoorM11e616f6
import Derived.Carry
import Derived.MapKept

set_option linter.unusedVariables false
set_option linter.unusedSimpArgs false
namespace Go.Gv
open Go.RowKit
theorem getM_some {blk : Nat -> Option Blk} {nm st : Nat} {es : List AV} (h : getM blk nm st = some es) : blk nm = some ⟨st, 0, es⟩ := by
 unfold getM at h
 split at h
 . rename_i b hb
   split at h
   . rename_i hc; cases h; rw [hb, <- hc.1, <- hc.2]
   . cases h
 . cases h
theorem findM_ok {E : Env} (q k : IntKind) (a : Int) : ∀ (es : List AV) (ms : List MapEntry) (i : Nat) (r : Option AV), EntsRel E es ms -> findM k a es = some r ->
   (r = none /\ Instr.findNow (.int q) (.int k a) ms i = some none) \/ ∃ z j v, r = some z /\ Instr.findNow (.int q) (.int k a) ms i = some (some (j, v)) /\ Rel E z v
 | [], [], i, r, _, h => by cases h; exact .inl ⟨rfl, rfl⟩
 | [], _ :: _, _, _, h, _ => h.elim
 | _ :: _, [], _, _, h, _ => h.elim
 | x :: es, m :: ms, i, r, ⟨⟨k', b, z, h1, h2, h3, h4⟩, h5⟩, h => by
   subst h1
   simp only [findM] at h
   split at h
   . rename_i ek; subst ek
     simp only [Instr.findNow, h2, Instr.sameNow, if_true]
     split at h
     . rename_i ea; subst ea
       cases h
       exact .inr ⟨z, i, m.val, rfl, by simp, h4⟩
     . rename_i ea
       have : (a == b) = false := by simp [ea]
       rw [this]
       exact findM_ok q _ a es ms (i + 1) r h5 h
   . cases h
section
variable {P : Program} {B : Nat} {W : World} {E : Env} {h : Hp} {w : World} {a : Act} {f : Nat -> AV} {n nm st : Nat}
theorem mkm_done (H : HConc E B h w) (hW : Below B W w) (hB : B <= w.heap.size) (hst : ¬ E.u st) (o : Oper) (t : TypeId) (ho : o.op = .makeMap t none) :
   Done B W E st ((execOp a.eval o).run P w) { v := .mp nm st, wb := [(nm, some ⟨st, 0, []⟩)] } h := by
 have hE := Env.le_withM hst (w.heap.size, 0) 0
 have em : (E.withM st (w.heap.size, 0) 0).m st = (w.heap.size, 0) := upd_same _ _ _
 refine ⟨.map (some w.heap.size), w.alloc (.map #[] 0), E.withM st (w.heap.size, 0) 0, .inl ?_, hE, fun s hs => hs.elim .inr .inl, fun _ _ _ => rfl, ?_, hW.alloc hB _, ?_⟩
 . simp [execOp, ho, run_makeMap]
 . have h1 := H.grow (w' := w.alloc (.map #[] 0)) (fun k hk => heap_alloc_old w _ k hk)
   have h2 := h1.env hE h1.K (fun n b x j => (h1.bk n b x).noK j) (fun _ _ _ _ _ _ => rfl)
   refine (h2.dropB nm).putB ⟨st, 0, []⟩ (.inl rfl) (.map rfl ⟨by rw [em]; exact hB, ⟨#[], 0, by rw [em]; exact heap_alloc_new w _, trivial⟩, by rw [em]; exact fun j => K_none H (Nat.le_refl _) j⟩) ?_ ?_
   . intro n b' hn hb'
     rw [hE.m _ (H.bu n b' hb'), em]
     exact fun q => by have := (H.bk n b' hb').lt; rw [q] at this; exact Nat.lt_irrefl _ this
   . intro n t ht q
     rw [hE.hd _ (H.tu n t ht), em] at q
     exact Nat.lt_irrefl _ ((H.tk n t ht).lt q).2
 . have := Rel.mp (E := E.withM st (w.heap.size, 0) 0) nm st (.inl rfl)
   rw [em] at this
   exact this
theorem checkKey_int {key : TypeId} {q : IntKind} (hk : P.underlying key = some (.int q)) (b : Bool) (m : Nat) (k : IntKind) (a0 : Int) (w : World) : (Instr.checkKey b (m + 1) key (.int k a0)).run P w = .ok () w := by
 simp [Instr.checkKey, run_underlying hk]
theorem findKey_int {key : TypeId} {q : IntKind} (hk : P.underlying key = some (.int q)) (u : Value) (es : List MapEntry) (r : Option (Nat × Value)) (h : Instr.findNow (.int q) u es 0 = some r) (w : World) : (Instr.findKey key u es).run P w = .ok r w := by
 simp [Instr.findKey, run_underlying hk, h]
theorem mget_done (H : HConc E B h w) (hW : Below B W w) (o : Oper) (t : TypeId) (x i : Operand) (key elem : TypeId) (q : IntKind) (ho : o.op = .lookup t x i false) (ht : P.underlying t = some (.map key elem)) (hk : P.underlying key = some (.int q))
   (inf : TypeInfo) (hi : P.info? elem = some inf) (z : Value) (hz : inf.zero = some z) (nm' s : Nat) (hm : Rel E (.mp nm' s) (a.eval x)) (k : IntKind) (a0 : Int) (hx : Rel E (.int k a0) (a.eval i))
   (es : List AV) (hes : getM h.blk nm' s = some es) (r : Option AV) (hr : findM k a0 es = some r) : Done B W E st ((execOp a.eval o).run P w) { v := r.getD (ofC z) } h := by
 have hb := getM_some hes
 obtain ⟨arr, c, hg, hents⟩ := (H.bk nm' _ hb).mp.mp
 simp only at hg
 have e1 : a.eval x = .map (some (E.m s).1) := by generalize a.eval x = u at hm; cases hm; rfl
 have e2 := hx.int_inv
 have hck : ∀ b, (Instr.checkKey b 10000 key (.int k a0)).run P w = .ok () w := fun b => checkKey_int (m := 9999) hk b k a0 w
 rcases findM_ok q k a0 es arr.toList 0 r hents hr with ⟨rfl, hf⟩ | ⟨y, j, v, rfl, hf, hv⟩
 . refine Done.pure H hW (v := z) ?_ (Rel_ofC E z)
   simp [execOp, ho, e1, e2, Instr.lookup, run_underlying ht, MapKept.run_getObj_map hg, hck, findKey_int hk _ _ _ hf, zeroValue, typeInfo, hi, hz]
 . refine Done.pure H hW (v := v) ?_ hv
   simp [execOp, ho, e1, e2, Instr.lookup, run_underlying ht, MapKept.run_getObj_map hg, hck, findKey_int hk _ _ _ hf]
theorem EntsRel.push {E : Env} (k : IntKind) (a : Int) (z : AV) (v : Value) (c : Nat) (h1 : z.one = true) (hv : Rel E z v) : ∀ (es : List AV) (ms : List MapEntry), EntsRel E es ms -> EntsRel E (es ++ [.agg [.int k a, z]]) (ms ++ [⟨.int k a, v, c⟩])
 | [], [], _ => ⟨⟨k, a, z, rfl, rfl, h1, hv⟩, trivial⟩
 | [], _ :: _, h => h.elim
 | _ :: _, [], h => h.elim
 | x :: es, m :: ms, ⟨h2, h3⟩ => ⟨h2, EntsRel.push k a z v c h1 hv es ms h3⟩
theorem mput_done (H : HConc E B h w) (hW : Below B W w) (o : Oper) (t : TypeId) (m x v : Operand) (key elem : TypeId) (q : IntKind) (ho : o.op = .mapUpdate t m x v) (ht : P.underlying t = some (.map key elem)) (hk : P.underlying key = some (.int q))
   (nm' s : Nat) (hm : Rel E (.mp nm' s) (a.eval m)) (k : IntKind) (a0 : Int) (hx : Rel E (.int k a0) (a.eval x)) (y : AV) (hv : Rel E y (a.eval v)) (h1 : y.one = true)
   (es : List AV) (hes : getM h.blk nm' s = some es) (hr : findM k a0 es = some none) : Done B W E st ((execOp a.eval o).run P w) { v := .junk, wb := [(nm', some ⟨s, 0, es ++ [.agg [.int k a0, y]]⟩)] } h := by
 have hb := getM_some hes
 have hbk := (H.bk nm' _ hb)
 have hbu : E.u s := H.bu nm' _ hb
 obtain ⟨arr, c, hg, hents⟩ := hbk.mp.mp
 simp only at hg
 have hlt : (E.m s).1 < w.heap.size := (Array.getElem?_eq_some_iff.1 hg).1
 have e1 : a.eval m = .map (some (E.m s).1) := by generalize a.eval m = u at hm; cases hm; rfl
 have e2 := hx.int_inv
 have hf : Instr.findNow (.int q) (.int k a0) arr.toList 0 = some none := by
   rcases findM_ok q k a0 es arr.toList 0 none hents hr with ⟨_, hf⟩ | ⟨y, j, v, h, _⟩
   . exact hf
   . cases h
 let w' : World := { w with heap := w.heap.setIfInBounds (E.m s).1 (.map (arr.push ⟨.int k a0, a.eval v, c⟩) (c + 1)) }
 have hck : ∀ b, (Instr.checkKey b 10000 key (.int k a0)).run P w = .ok () w := fun b => checkKey_int (m := 9999) hk b k a0 w
 have hsame : w'.heap[(E.m s).1]? = some (.map (arr.push ⟨.int k a0, a.eval v, c⟩) (c + 1)) := by simp [w', hlt]
 have hother : ∀ g, g ≠ (E.m s).1 -> w'.heap[g]? = w.heap[g]? := fun g hne => by simp [w', Array.getElem?_setIfInBounds, Ne.symm hne]
 refine ⟨undef, w', E, .inr ⟨?_, rfl⟩, .refl E, fun _ q => .inl q, fun _ _ _ => rfl, ?_, ?_, .junk _⟩
 . simp [execOp, ho, e1, e2, Instr.mapUpdate, run_underlying ht, MapKept.run_getObj_map hg, hck, findKey_int hk _ _ _ hf, MapKept.run_setObj_map _ hg, w']
 . have H1 : HConc E B (h.setB nm' none) w' := by
     refine (H.dropB nm').change ?_ ?_ ?_
     . intro b o v hk'
       have hne : b ≠ (E.m s).1 := fun q => by rw [q, hbk.noK o] at hk'; cases hk'
       rw [World.cell?_of_block (w := w) (hother b hne)]
       exact H.K b o v hk'
     . intro n b hb'
       have : n ≠ nm' /\ h.blk n = some b := by
         simp only [Hp.setB, upd] at hb'
         split at hb'
         . simp at hb'
         . rename_i hne; exact ⟨hne, hb'⟩
       exact hother _ (H.bb n nm' b _ this.1 this.2 hb)
     . intro n t' g ht' hg'
       exact hother _ (fun q => H.bt nm' n _ t' hb ht' (by rw [hg', q]))
   refine H1.putB ⟨s, 0, _⟩ hbu (.map rfl ⟨hbk.base, ⟨_, _, hsame, ?_⟩, hbk.noK⟩) (fun n b' hn hb' => by have := H.bb n nm' b' _ hn hb' hb; exact this) (fun n t' ht' => by have := H.bt nm' n _ t' hb ht'; exact this)
   rw [Array.toList_push]
   exact EntsRel.push k a0 y _ c h1 hv es _ hents
 . exact hW.trans ⟨rfl, rfl, rfl, by simp [w'], fun g hg' => hother g (fun q => by have := hbk.base; simp only at this; omega)⟩
end
end Go.Gv
