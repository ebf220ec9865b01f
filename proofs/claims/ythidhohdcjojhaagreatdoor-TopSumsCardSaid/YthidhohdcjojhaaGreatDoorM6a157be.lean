/- Texts of this proof, one behind the other. What is proved, and on which conditions, stands ahead of each. -/
import Derived.Test.YthidhohdcjojhaaGreatDoorM4300ef6
import Derived.Laws.MakeOwn
import Derived.Laws.StructEq
import Derived.Laws.IdiomCopy

set_option linter.unusedVariables false
set_option linter.unusedSimpArgs false
namespace Go.Gv
open Go.RowKit
def Done (B : Nat) (W : World) (E : Env) (st : Nat) (s : Result Next) (e : Eff) (h : Hp) : Prop :=
 ∃ v w' E', (s = .ok (.value v) w' \/ (s = .ok .skip w' /\ v = undef)) /\ E.le E' /\ (∀ x, E'.u x -> E.u x \/ x = st) /\ (∀ b o, b < B -> E'.K b o = E.K b o) /\ HConc E' B (h.app e) w' /\ Below B W w' /\ Rel E' e.v v
theorem Done.pure {B : Nat} {W : World} {E : Env} {st : Nat} {s : Result Next} {h : Hp} {w : World} {v : Value} {x : AV} (H : HConc E B h w) (hW : Below B W w) (hs : s = .ok (.value v) w) (hr : Rel E x v) :
   Done B W E st s { v := x } h := ⟨v, w, E, .inl hs, .refl E, fun _ h => .inl h, fun _ _ _ => rfl, H, hW, hr⟩
structure Grew (w w' : World) (v v' : Value) (k : Nat) : Prop where
 os : w'.os = w.os
 tape : w'.tape = w.tape
 output : w'.output = w.output
 size : w.heap.size <= w'.heap.size
 block : ∀ b, b < w.heap.size -> v.ownBlock ≠ some b -> w'.heap[b]? = w.heap[b]?
 kept : ∀ g j u, v.ownBlock = some g -> j < k -> w.cell? ⟨g, j, none⟩ = some u -> w'.cell? ⟨g, j, none⟩ = some u
 own : v'.ownBlock = v.ownBlock \/ ∃ g', v'.ownBlock = some g' /\ w.heap.size <= g'
theorem frozen_M {w : World} {g : Nat} {cur : Array Value} {t : TypeId} {fz : Nat × Nat} (hg : w.heap[g]? = some (.cells cur t fz)) {sz : Nat} (hf : FzOk sz fz cur.size) {j : Nat} (hj : j < cur.size) : w.frozen? ⟨g, j, none⟩ = false := by
 obtain ⟨lo, hi⟩ := fz
 simp only [World.frozen?, hg]
 rcases hf with hf | ⟨_, hf⟩
 . cases hf; simp
 . simp only at hf
   simp
   omega
theorem setCells_M (g : Nat) (t : TypeId) (fz : Nat × Nat) : ∀ (vs : List Value) (o : Nat) (cur : Array Value) (w : World), w.heap[g]? = some (.cells cur t fz) -> o + vs.length <= cur.size ->
   w.setCells g o vs = w.setRow g (cur.toList.take o ++ vs ++ cur.toList.drop (o + vs.length)).toArray
 | [], o, cur, w, hg, hl => by
   simp only [World.setCells, List.append_nil, List.length_nil, Nat.add_zero, List.take_append_drop, Array.toArray_toList]
   exact (setRow_self w g cur t fz hg).symm
 | v :: r, o, cur, w, hg, hl => by
   simp only [List.length_cons] at hl
   rw [World.setCells, setCell_eq_setRow w g o cur t fz v hg, setCells_M g t fz r (o + 1) (cur.setIfInBounds o v) _ (setRow_heap w g cur _ t _ hg) (by simp; omega), setRow_setRow]
   congr 2
   have e := list_seg_step cur.toList o v r (by simp; omega)
   simpa [Array.toList_setIfInBounds, Nat.add_assoc] using e
theorem run_append_roomM {P : Program} (w : World) (t ty e : TypeId) (i : TypeInfo) (ht : P.underlying t = some (.slice e)) (hi : P.info? e = some i)
   (g n cap : Nat) (cur : Array Value) (fz : Nat × Nat) (hg : w.heap[g]? = some (.cells cur e fz)) {sz : Nat} (hfz : FzOk sz fz cur.size)
   (a : Addr) (m c : Nat) (news : List Value) (hl : news.length = m * i.size) (hnews : ∀ j u, news[j]? = some u -> w.cell? (a.add j) = some u) (h1 : ∀ u ∈ news, u.oneCell' = true)
   (hroom : n + m <= cap) (hfit : n * i.size + news.length <= cur.size) :
   (Builtin.append_ #[t, t] ty #[.slice (some ⟨g, 0, none⟩) n cap, .slice (some a) m c]).run P w =
     .ok (.slice (some ⟨g, 0, none⟩) (n + m) cap) (w.setRow g (cur.toList.take (n * i.size) ++ news ++ cur.toList.drop (n * i.size + news.length)).toArray) := by
 have hf := run_firstCells_some (P := P) w i.size m a m c news hl hnews
 have hst := run_storeCells_cells (P := P) g (n * i.size) news 0 w
   (fun j hj => by rw [Nat.add_zero, cell_of_row w g _ cur e fz hg, Array.getElem?_eq_getElem (by omega)]; rfl)
   (fun j hj => by rw [Nat.add_zero]; exact frozen_M hg hfz (by omega)) h1
 rw [Nat.add_zero, setCells_M g e fz news _ cur w hg hfit] at hst
 simp [Builtin.append_, run_underlying ht, sizeOf, typeInfo, hi, Builtin.lenOf, hroom, hf, Addr.add_lit, hst]
theorem run_append_gv {P : Program} (w : World) (B : Nat) (t ty e : TypeId) (i : TypeInfo) (z : Value) (sz : Nat) (ht : P.underlying t = some (.slice e)) (hi : P.info? e = some i) (hz : i.zero = some z)
   (hsz : i.size = sz) (hzs : z.cells.size = sz) (h0 : 0 < sz) (v : Value) (n : Nat) (cs : List Value) (hown : OwnsM w B e sz v n cs) (hB : B <= w.heap.size)
   (u : Value) (m : Nat) (news : List Value) (hu : ∃ a c, u = .slice a m c /\ ((a = none /\ m = 0) \/ ∃ ad, a = some ad /\ ∀ j x, news[j]? = some x -> w.cell? (ad.add j) = some x))
   (hl : news.length = m * sz) (h1 : ∀ x ∈ news, x.oneCell' = true) (h63 : n + m <= maxLen) (hby : (n + m) * i.bytes <= 140737488355328) :
   ∃ v' w', (Builtin.append_ #[t, t] ty #[v, u]).run P w = .ok v' w' /\ OwnsM w' B e sz v' (n + m) (cs ++ news) /\ Grew w w' v v' (n * sz) := by
 subst hsz
 obtain ⟨a, c, rfl, hu⟩ := hu
 have hsmall : n + m <= 9223372036854775807 := by simp only [maxLen] at h63; omega
 have same : OwnsM w B e i.size v (n + m) (cs ++ news) -> m = 0 -> ∃ v' w', Result.ok v w = .ok v' w' /\ OwnsM w' B e i.size v' (n + m) (cs ++ news) /\ Grew w w' v v' (n * i.size) := fun h _ =>
   ⟨v, w, rfl, h, ⟨rfl, rfl, rfl, Nat.le_refl _, fun _ _ _ => rfl, fun _ _ _ _ _ h => h, .inl rfl⟩⟩
 by_cases hm : m = 0
 ·
   subst hm
   have hn : news = [] := List.eq_nil_of_length_eq_zero (by simpa using hl)
   subst hn
   have hrun : (Builtin.append_ #[t, t] ty #[v, .slice a 0 c]).run P w = .ok v w := by
     rcases hown.2 with ⟨rfl, hn⟩ | ⟨g, cap, cur, fz, rfl, hbg, hg, hfz, hnc, _⟩
     . cases a <;> simp [Builtin.append_, run_underlying ht, sizeOf, typeInfo, hi, Builtin.lenOf, Builtin.firstCells, loadCells, loadCellsFrom]
     . cases a <;> simp [Builtin.append_, run_underlying ht, sizeOf, typeInfo, hi, Builtin.lenOf, Builtin.firstCells, loadCells, loadCellsFrom, hnc, storeCells]
   rw [hrun]
   exact same (by simpa using hown) rfl
 . obtain ⟨ad, rfl, hnews⟩ := hu.resolve_left (fun h => hm h.2)
   have hlen : (cs ++ news).length = (n + m) * i.size := by rw [List.length_append, hown.1, hl, Nat.add_mul]
   have grown : ∀ (old : Nat), old < n + m ->
       OwnsM (w.drew.alloc (.cells (cs.toArray ++ news.toArray ++ Builtin.zeroCells z.cells (grownCap w (n + m) old e - (n + m))) e)) B e i.size
         (.slice (some ⟨w.heap.size, 0, none⟩) (n + m) (grownCap w (n + m) old e)) (n + m) (cs ++ news) /\
       Grew w (w.drew.alloc (.cells (cs.toArray ++ news.toArray ++ Builtin.zeroCells z.cells (grownCap w (n + m) old e - (n + m))) e)) v (.slice (some ⟨w.heap.size, 0, none⟩) (n + m) (grownCap w (n + m) old e)) (n * i.size) := by
     intro old ho
     have hge := grownCap_ge w (n + m) old e
     have hcm : grownCap w (n + m) old e <= maxLen := grownCap_le_maxLen w (n + m) old e h63
     refine ⟨⟨hlen, .inr ⟨w.heap.size, _, _, (0, 0), rfl, hB, heap_alloc_new w.drew _, .inl rfl, hge, hcm, ?_, ?_⟩⟩, ⟨rfl, rfl, rfl, by simp, fun k hk _ => heap_alloc_old w.drew _ k hk, ?_, .inr ⟨w.heap.size, rfl, Nat.le_refl _⟩⟩⟩
     . simp only [Array.size_append, List.size_toArray, size_zeroCells, hzs, hown.1, hl, <- Nat.add_mul]
       congr 1
       omega
     . simp only [Array.toList_append, List.append_assoc]
       rw [<- List.append_assoc, <- hlen]
       exact List.take_left
     . intro g j u hg hj hc
       have hlt := World.block_lt_of_cell? w _ hc
       rw [World.cell?_alloc_lt w.drew _ _ (by simpa using hlt)]
       exact hc
   rcases hown.2 with ⟨rfl, rfl⟩ | ⟨g, cap, cur, fz, rfl, hbg, hg, hfz, hnc, hcm, hcs, htake⟩
   . have hx : cs = [] := List.eq_nil_of_length_eq_zero (by simpa using hown.1)
     subst hx
     have hr := run_append_nil (P := P) w t ty e i z ht hi hz ad m c news hl hnews (by omega) (by omega) (by have hb := hby; simp only [Nat.zero_add] at hb; omega)
     have hgr := grown 0 (by omega)
     simp only [Nat.zero_add, List.nil_append, Array.empty_append] at hgr ⊢
     exact ⟨_, _, hr, hgr.1, hgr.2⟩
   . by_cases hroom : n + m <= cap
     . have hfit : n * i.size + news.length <= cur.size := by rw [hl, hcs, <- Nat.add_mul]; exact Nat.mul_le_mul_right _ hroom
       have hr := run_append_roomM (P := P) w t ty e i ht hi g n cap cur fz hg hfz ad m c news hl hnews h1 hroom hfit
       have hlc : cs.length = n * i.size := hown.1
       refine ⟨_, _, hr, ⟨hlen, .inr ⟨g, cap, _, fz, rfl, hbg, setRow_heap w g cur _ e _ hg, ?_, hroom, hcm, ?_, ?_⟩⟩, ⟨rfl, rfl, rfl, by simp, fun k hk hne => setRow_other w g k _ (fun q => hne (by simp [Value.ownBlock, q])), ?_, .inl rfl⟩⟩
       . refine hfz.imp id fun q => ⟨q.1, ?_⟩
         have := q.2
         simp only [List.size_toArray, List.length_append, List.length_take, List.length_drop, Array.length_toList]
         omega
       . simp only [List.size_toArray, List.length_append, List.length_take, List.length_drop, Array.length_toList]
         omega
       . rw [htake, <- hlen]
         exact List.take_left
       . intro g' j u hg' hj hc
         have hgg : g = g' := by simpa [Value.ownBlock] using hg'
         subst hgg
         rw [cell_setRow_same w g j cur _ e fz hg]
         rw [cell_of_row w g j cur e fz hg] at hc
         have hjl : j < cur.size := (Array.getElem?_eq_some_iff.1 hc).1
         simp only [List.getElem?_toArray, List.append_assoc]
         rw [List.getElem?_append_left (by simp; omega), List.getElem?_take, if_pos hj]
         simpa using hc
     . have holds : ∀ j x, cs[j]? = some x -> w.cell? ((⟨g, 0, none⟩ : Addr).add j) = some x := hown.cells (g := g) rfl
       have hr := run_append_grow (P := P) w t ty e i z ht hi hz ⟨g, 0, none⟩ n cap cs hown.1 holds ad m c news hl hnews (by omega) (by omega) (growslice_fits (by omega) hby)
       have hgr := grown cap (by omega)
       exact ⟨_, _, hr, hgr.1, hgr.2⟩
def Src (E : Env) (w : World) (sz : Nat) (ys : List AV) (u : Value) : Prop :=
 ∃ (a : Option Addr) (c : Nat) (news : List Value), u = .slice a ys.length c /\ ys.length <= c /\ news.length = ys.length * sz /\ (∀ y ∈ ys, ElemOk sz y) /\ (∀ v ∈ news, v.oneCell' = true) /\
   ((a = none /\ ys = []) \/ ∃ ad, a = some ad /\ ∀ (j : Nat) (v : Value), news[j]? = some v -> w.cell? (ad.add j) = some v) /\
   ∀ (i : Nat) (y : AV), ys[i]? = some y -> ∀ (j : Nat) (z : AV), y.cells[j]? = some z -> ∃ v, news[i * sz + j]? = some v /\ Rel E.cl z v
theorem src_of {E : Env} {B : Nat} {h : Hp} {w : World} (H : HConc E B h w) {x : AV} {u : Value} (hu : Rel E x u) {sz : Nat} {ys : List AV} (hx : listOf h.blk sz x = some ys) :
   Src E w sz ys u := by
 have empty : ∀ a c, u = .slice a 0 c -> ys = [] -> Src E w sz ys u := by
   intro a c e1 e2
   subst e1 e2
   exact ⟨a, c, [], rfl, Nat.zero_le _, by simp, by simp, by simp, by cases a <;> simp, by simp⟩
 have main : ∀ (b o c : Nat) (g : Nat -> Nat -> Value) (spot : Addr), spot = ⟨b, o, none⟩ -> u = .slice (some spot) ys.length c -> ys.length <= c -> (∀ y ∈ ys, ElemOk sz y) ->
     (∀ i y, ys[i]? = some y -> ∀ j z, y.cells[j]? = some z -> w.cell? ⟨b, o + i * sz + j, none⟩ = some (g i j) /\ Rel E.cl z (g i j)) -> Src E w sz ys u := by
   intro b o c g spot hspot e1 hcap hel hg
   subst hspot
   have parts : ∀ k, k < ys.length * sz -> k / sz < ys.length /\ k % sz < sz /\ k / sz * sz + k % sz = k := by
     intro k hk
     have hs : 0 < sz := by
       rcases Nat.eq_zero_or_pos sz with e | e
       . subst e; simp at hk
       . exact e
     exact ⟨Nat.div_lt_of_lt_mul (by rw [Nat.mul_comm]; exact hk), Nat.mod_lt _ hs, by have := Nat.div_add_mod k sz; rw [Nat.mul_comm] at this; exact this⟩
   have at_ : ∀ i y, ys[i]? = some y -> ∀ j z, y.cells[j]? = some z -> ((List.range (ys.length * sz)).map fun k => g (k / sz) (k % sz))[i * sz + j]? = some (g i j) := by
     intro i y hy j z hz
     have hi := (List.getElem?_eq_some_iff.1 hy).1
     have hj : j < sz := by rw [<- (hel y (List.mem_of_getElem? hy)).1]; exact (List.getElem?_eq_some_iff.1 hz).1
     have hlt := mul_lt hi hj
     rw [List.getElem?_map, List.getElem?_range hlt]
     have hs : 0 < sz := by omega
     have d1 : (i * sz + j) / sz = i := by rw [Nat.mul_comm, Nat.mul_add_div hs, Nat.div_eq_of_lt hj]; simp
     have d2 : (i * sz + j) % sz = j := by rw [Nat.mul_comm, Nat.mul_add_mod]; exact Nat.mod_eq_of_lt hj
     simp [d1, d2]
   refine ⟨some ⟨b, o, none⟩, c, (List.range (ys.length * sz)).map fun k => g (k / sz) (k % sz), e1, hcap, by simp, hel, ?_, .inr ⟨⟨b, o, none⟩, rfl, ?_⟩, ?_⟩
   . intro v hv
     rw [List.mem_map] at hv
     obtain ⟨k, hk, rfl⟩ := hv
     obtain ⟨p1, p2, p3⟩ := parts k (List.mem_range.1 hk)
     obtain ⟨y, hy⟩ : ∃ y, ys[k / sz]? = some y := ⟨_, List.getElem?_eq_getElem p1⟩
     have hym := hel y (List.mem_of_getElem? hy)
     obtain ⟨z, hz⟩ : ∃ z, y.cells[k % sz]? = some z := ⟨_, List.getElem?_eq_getElem (by rw [hym.1]; exact p2)⟩
     exact (hg _ y hy _ z hz).2.one (hym.2 z (List.mem_of_getElem? hz))
   . intro k v hk
     have hk' : k < ys.length * sz := by have := (List.getElem?_eq_some_iff.1 hk).1; simpa using this
     obtain ⟨p1, p2, p3⟩ := parts k hk'
     obtain ⟨y, hy⟩ : ∃ y, ys[k / sz]? = some y := ⟨_, List.getElem?_eq_getElem p1⟩
     have hym := hel y (List.mem_of_getElem? hy)
     obtain ⟨z, hz⟩ : ∃ z, y.cells[k % sz]? = some z := ⟨_, List.getElem?_eq_getElem (by rw [hym.1]; exact p2)⟩
     have e2 := at_ _ y hy _ z hz
     rw [p3] at e2
     rw [e2] at hk
     cases hk
     rw [Addr.add_mk]
     have := (hg _ y hy _ z hz).1
     rwa [Nat.add_assoc, p3] at this
   . intro i y hy j z hz
     exact ⟨g i j, at_ i y hy j z hz, (hg i y hy j z hz).2⟩
 have lstcase : ∀ s xs, s = sz -> xs = ys -> Rel E (.lst s xs) u -> Src E w sz ys u := by
   intro s xs e1 e2 hr
   subst e1 e2
   cases hr with
   | lst0 _ a cap => exact empty a cap rfl rfl
   | lst _ b o _ cap f hcap hsz hk h1 hr =>
     have hel : ∀ y ∈ xs, ElemOk s y := by
       intro y hy
       refine ⟨hsz y hy, fun z hz => ?_⟩
       obtain ⟨i, hi⟩ := List.getElem?_of_mem hy
       obtain ⟨j, hj⟩ := List.getElem?_of_mem hz
       exact h1 i y hi j z hj
     refine main b o cap f ⟨b, o, none⟩ rfl rfl hcap hel ?_
     intro i y hy j z hz
     have hi := (List.getElem?_eq_some_iff.1 hy).1
     have hj : j < s := by rw [<- (hel y (List.mem_of_getElem? hy)).1]; exact (List.getElem?_eq_some_iff.1 hz).1
     exact ⟨H.K _ _ _ (hk i j hi hj), hr i y hy j z hz⟩
 cases x with
 | nils => simp [listOf] at hx; subst hx; exact empty none 0 hu.nils_inv rfl
 | lst s xs =>
   simp only [listOf] at hx
   split at hx
   . rename_i e; cases hx; exact lstcase s ys e rfl hu
   . cases hx
 | acc nm st s xs =>
   simp only [listOf] at hx
   split at hx
   . rename_i e; cases hx
     cases hu with
     | acc _ _ _ _ _ _ _ hl => exact lstcase s ys e rfl hl
   . cases hx
 | sl nm st s off len =>
   simp only [listOf] at hx
   split at hx
   . rename_i e
     subst e
     unfold getB at hx
     split at hx
     . rename_i b hb
       split at hx
       . rename_i hst
         simp only [Option.bind_some] at hx
         split at hx
         . rename_i hle'
           obtain ⟨hle, hcl⟩ := hle'
           cases hx
           have hbk := (H.bk nm b hb).r (by rw [hst.2.1]; exact hst.2.2)
           obtain ⟨cur, e, hg, hsz, hr⟩ := hbk.row
           rw [hst.1, hst.2.1] at *
           cases hu with
           | sl _ _ _ _ _ cap a hus hcap hc ha =>
             have hlen : ((b.es.drop off).take len).length = len := by simp; omega
             by_cases hl0 : len = 0
             . refine empty a cap (by rw [hl0]) (by simp [hl0])
             . have ea := ha (by omega)
               subst ea
               have hmem : ∀ y ∈ (b.es.drop off).take len, y ∈ b.es := fun y hy => List.mem_of_mem_drop (List.mem_of_mem_take hy)
               have hel' : ∀ y ∈ (b.es.drop off).take len, ElemOk s y := by
                 intro y hy; exact hbk.el y (hmem y hy)
               rw [hlen] at main
               refine main (E.m st).1 ((E.m st).2 + off * s) cap (fun i j => (cur[(E.m st).2 + (off + i) * s + j]?).getD .nilFunc) _ rfl rfl hcap hel' ?_
               intro i y hy j z hz
               have hi : i < len := by have := (List.getElem?_eq_some_iff.1 hy).1; omega
               have hy' : b.es[off + i]? = some y := by
                 rw [List.getElem?_take, if_pos hi, List.getElem?_drop] at hy
                 exact hy
               obtain ⟨v, hv, hrel⟩ := hr (off + i) y hy' j z hz
               have e1 : (E.m st).2 + off * s + i * s + j = (E.m st).2 + (off + i) * s + j := by rw [Nat.add_mul]; omega
               rw [e1, cell_of_row w _ _ cur e (0, 0) hg, hv]
               have hz1 : z.cl1 = true := by
                 have q := List.all_eq_true.1 hcl y (List.mem_of_getElem? hy)
                 exact List.all_eq_true.1 q z (List.mem_of_getElem? hz)
               exact ⟨rfl, Rel.of_cl1 (E := E) (E' := E.cl) (fun _ _ _ q => q) hrel hz1⟩
         . cases hx
       . cases hx
     . cases hx
   . cases hx
 | _ => simp [listOf] at hx
end Go.Gv

namespace Go.Gv
open Go.RowKit
theorem acc_row {E : Env} {B : Nat} {w : World} (hK : ∀ b o v, E.K b o = some v -> w.cell? ⟨b, o, none⟩ = some v) {sz : Nat} {ty : TypeId} {xs : List AV} {v : Value}
   (hl : Rel E (.lst sz xs) v) (ht : TokOk E B w sz ty v) :
   ∃ cs, OwnsM w B ty sz v xs.length cs /\ (∀ x ∈ xs, ElemOk sz x) /\ (∀ g j, v.ownBlock = some g -> xs.length * sz <= j -> E.K g j = none) /\
     ∀ (i : Nat) (x : AV), xs[i]? = some x -> ∀ (j : Nat) (y : AV), x.cells[j]? = some y -> ∃ u, cs[i * sz + j]? = some u /\ Rel E.cl y u := by
 obtain ⟨n, cs, hown, hk⟩ := ht
 have hn : n = xs.length := by
   rcases hown.2 with ⟨rfl, h0⟩ | ⟨g, cap, cur, fz, rfl, _⟩
   . cases hl; simp [h0]
   . cases hl <;> rfl
 subst hn
 refine ⟨cs, hown, ?_, hk, ?_⟩
 . cases hl with
   | lst0 _ a cap => simp
   | lst _ b o _ cap f hcap hsz hk h1 hr =>
     intro y hy
     refine ⟨hsz y hy, fun z hz => ?_⟩
     obtain ⟨i, hi⟩ := List.getElem?_of_mem hy
     obtain ⟨j, hj⟩ := List.getElem?_of_mem hz
     exact h1 i y hi j z hj
 . intro i x hx j y hy
   have hi := (List.getElem?_eq_some_iff.1 hx).1
   cases hl with
   | lst0 _ a cap => simp at hx
   | lst _ b o _ cap f hcap hsz hk' h1 hr =>
     have hj : j < sz := by rw [<- hsz x (List.mem_of_getElem? hx)]; exact (List.getElem?_eq_some_iff.1 hy).1
     have hlt : i * sz + j < cs.length := by rw [hown.1]; exact mul_lt hi hj
     have hc : cs[i * sz + j]? = some cs[i * sz + j] := List.getElem?_eq_getElem hlt
     refine ⟨_, hc, ?_⟩
     have hcell := hK _ _ _ (hk' i j hi hj)
     rcases hown.2 with ⟨h0, _⟩ | ⟨g, cap', cur, fz, h0, _⟩
     . cases h0
     . have e : b = g /\ o = 0 := by cases h0; exact ⟨rfl, rfl⟩
       have hc2 := hown.cells (g := g) (by rw [h0]; rfl) _ _ hc
       rw [e.1, e.2, Nat.zero_add] at hcell
       rw [Addr.add_mk, Nat.zero_add] at hc2
       rw [hcell] at hc2
       rw [<- Option.some.inj hc2]
       exact hr i x hx j y hy
theorem Grew.below {B : Nat} {W w w' : World} {v v' : Value} {k : Nat} (hW : Below B W w) (hB : B <= w.heap.size) (g : Grew w w' v v' k) (hv : ∀ b, v.ownBlock = some b -> B <= b) : Below B W w' :=
 hW.trans ⟨g.os, g.tape, g.output, g.size, fun b hb => g.block b (by omega) (fun e => by have := hv b e; omega)⟩
theorem tok_set {h : Hp} {nm n : Nat} {t : Tok} (hx : (h.setT nm none).tok n = some t) : n ≠ nm /\ h.tok n = some t := by
 simp only [Hp.setT, upd] at hx
 split at hx
 . simp at hx
 . rename_i hne; exact ⟨hne, hx⟩
theorem app_core {P : Program} {B : Nat} {W : World} {E : Env} {h : Hp} {w : World} (H : HConc E B h w) (hW : Below B W w) (hB : B <= w.heap.size) (nm st sz : Nat) (t ty e : TypeId) (i : TypeInfo) (z : Value)
   (hst : ¬ E.u st) (ht : P.underlying t = some (.slice e)) (hi : P.info? e = some i) (hz : i.zero = some z) (hsz : i.size = sz) (hzs : z.cells.size = sz) (h0 : 0 < sz) (hb1 : 0 < i.bytes)
   (xs ys : List AV) (v u : Value) (cs : List Value) (hown : OwnsM w B e sz v xs.length cs) (hel : ∀ x ∈ xs, ElemOk sz x)
   (hr : ∀ (i : Nat) (x : AV), xs[i]? = some x -> ∀ (j : Nat) (y : AV), x.cells[j]? = some y -> ∃ u, cs[i * sz + j]? = some u /\ Rel E.cl y u)
   (hK : ∀ g j, v.ownBlock = some g -> xs.length * sz <= j -> E.K g j = none)
   (hb : ∀ n b, h.blk n = some b -> v.ownBlock ≠ some (E.m b.st).1) (htk : ∀ n t, h.tok n = some t -> ∀ g, (E.hd t.st).ownBlock = some g -> v.ownBlock ≠ some g)
   (hu : Src E w sz ys u) (hby : (xs.length + ys.length) * i.bytes <= 140737488355328) :
   ∃ v' w' E', (Builtin.append_ #[t, t] ty #[v, u]).run P w = .ok v' w' /\ E.le E' /\ (∀ x, E'.u x -> E.u x \/ x = st) /\ (∀ b o, b < B -> E'.K b o = E.K b o) /\ HConc E' B (h.setT nm (some ⟨st, sz, e⟩)) w' /\ Below B W w' /\ Rel E' (.acc nm st sz (xs ++ ys)) v' := by
 obtain ⟨a, c, news, eu, hyc, hnl, hyel, hn1, hspot, hyr⟩ := hu
 have h63 : xs.length + ys.length <= maxLen := by
   have : xs.length + ys.length <= (xs.length + ys.length) * i.bytes := Nat.le_mul_of_pos_right _ hb1
   simp only [maxLen]; omega
 obtain ⟨v', w', hrun, hown', hg⟩ := run_append_gv (P := P) w B t ty e i z sz ht hi hz hsz hzs h0 v xs.length cs hown hB u ys.length news
   ⟨a, c, eu, hspot.imp (fun q => ⟨q.1, by rw [q.2]; rfl⟩) (fun q => q)⟩ hnl hn1 h63 hby
 have hvlt := hown.lt
 have H1 : HConc E B h w' := by
   refine H.change ?_ ?_ ?_
   . intro b o x hk
     have hc := H.K b o x hk
     have hlt := World.block_lt_of_cell? w _ hc
     by_cases e : v.ownBlock = some b
     . have : o < xs.length * sz := by
         rcases Nat.lt_or_ge o (xs.length * sz) with q | q
         . exact q
         . rw [hK b o e q] at hk; cases hk
       exact hg.kept b o x e this hc
     . rw [World.cell?_of_block (w := w) (hg.block b hlt e)]; exact hc
   . intro n b x; exact hg.block _ (H.bk n b x).lt (hb n b x)
   . intro n t' g x hx; exact hg.block _ ((H.tk n t' x).lt hx).2 (htk n t' x g hx)
 have hlen : (xs ++ ys).length = xs.length + ys.length := List.length_append
 have q1 : ∀ (k : Nat) (x : AV), (xs ++ ys)[k]? = some x -> ∀ (j : Nat) (y : AV), x.cells[j]? = some y -> ∃ u, (cs ++ news)[k * sz + j]? = some u /\ Rel E.cl y u := by
   intro k x hx j y hy
   by_cases hk : k < xs.length
   . rw [List.getElem?_append_left hk] at hx
     obtain ⟨q, hq, hqr⟩ := hr k x hx j y hy
     exact ⟨q, by rw [List.getElem?_append_left (List.getElem?_eq_some_iff.1 hq).1]; exact hq, hqr⟩
   . rw [List.getElem?_append_right (by omega)] at hx
     obtain ⟨q, hq, hqr⟩ := hyr _ x hx j y hy
     refine ⟨q, ?_, hqr⟩
     have e1 : k * sz = xs.length * sz + (k - xs.length) * sz := by rw [<- Nat.add_mul]; congr 1; omega
     rw [List.getElem?_append_right (by rw [hown.1]; omega), hown.1, e1]
     rw [show xs.length * sz + (k - xs.length) * sz + j - xs.length * sz = (k - xs.length) * sz + j by omega]
     exact hq
 have q2 : ∀ n b, h.blk n = some b -> v'.ownBlock ≠ some (E.m b.st).1 := by
   intro n b x
   rcases hg.own with e1 | ⟨g', e1, e2⟩
   . rw [e1]; exact hb n b x
   . rw [e1]; intro q; have := (H.bk n b x).lt; cases q; omega
 have q3 : ∀ n t, h.tok n = some t -> n ≠ nm -> ∀ g, (E.hd t.st).ownBlock = some g -> v'.ownBlock ≠ some g := by
   intro n t' x hne g hx
   rcases hg.own with e1 | ⟨g', e1, e2⟩
   . rw [e1]; exact htk n t' x g hx
   . rw [e1]; intro q; have := ((H.tk n t' x).lt hx).2; cases q; omega
 have q4 : ∀ g j, v'.ownBlock = some g -> (xs ++ ys).length * sz <= j -> E.K g j = none := by
   intro g j hg' hj
   rcases hg.own with e1 | ⟨g', e1, e2⟩
   . rw [e1] at hg'
     refine hK g j hg' (Nat.le_trans (Nat.mul_le_mul_right _ ?_) hj)
     omega
   . rw [e1] at hg'; cases hg'
     exact K_none H e2 j
 obtain ⟨E', hE, hEu, hEB, H2, hrel⟩ := H1.newAcc nm st sz e hst (xs ++ ys) v' (cs ++ news) (by rw [hlen]; exact hown') (fun x hx => (List.mem_append.1 hx).elim (hel x) (hyel x)) q1 q2 q3 q4
 exact ⟨v', w', E', hrun, hE, hEu, hEB, H2, hg.below hW hB (fun b hb' => (hvlt b hb').1), hrel⟩
theorem app_done {P : Program} {B : Nat} {W : World} {E : Env} {h : Hp} {w : World} (H : HConc E B h w) (hW : Below B W w) (hB : B <= w.heap.size) (nm st sz : Nat) (t ty e : TypeId) (i : TypeInfo) (z : Value)
   (hst : ¬ E.u st) (ht : P.underlying t = some (.slice e)) (hi : P.info? e = some i) (hz : i.zero = some z) (hsz : i.size = sz) (hzs : z.cells.size = sz) (h0 : 0 < sz) (hb1 : 0 < i.bytes)
   (s x : AV) (vs vx : Value) (hs : Rel E s vs) (hx : Rel E x vx) (b : List AV × Option Nat) (hb : appBase h.tok sz e s = some b) (ys : List AV) (hys : listOf h.blk sz x = some ys)
   (hby : (b.1.length + ys.length) * i.bytes <= 140737488355328) :
   ∃ v' w' E', (Builtin.append_ #[t, t] ty #[vs, vx]).run P w = .ok v' w' /\ E.le E' /\ (∀ x, E'.u x -> E.u x \/ x = st) /\ (∀ b o, b < B -> E'.K b o = E.K b o) /\
     HConc E' B (h.app { v := .acc nm st sz (b.1 ++ ys), wt := (match b.2 with | some n => [(n, none)] | none => []) ++ [(nm, some ⟨st, sz, e⟩)] }) w' /\ Below B W w' /\ Rel E' (.acc nm st sz (b.1 ++ ys)) v' := by
 have hsrc := src_of H hx hys
 cases s with
 | nils =>
   have : b = ([], none) := by simpa [appBase] using hb.symm
   subst this
   have ev := hs.nils_inv
   subst ev
   exact app_core (xs := []) H hW hB nm st sz t ty e i z hst ht hi hz hsz hzs h0 hb1 ys _ _ [] (OwnsM.nil w B e sz) (by simp) (by simp) (by simp [Value.ownBlock]) (by simp [Value.ownBlock]) (by simp [Value.ownBlock]) hsrc hby
 | acc nm' st' s' xs =>
   simp only [appBase] at hb
   split at hb
   . rename_i tk htk
     split at hb
     . rename_i hc
       obtain ⟨c1, c2, c3, c4⟩ := hc
       cases hb
       cases hs with
       | acc _ _ _ _ _ hu hv hl =>
         subst c3
         have htok := H.tk nm' tk htk
         rw [c1, c2, c4, <- hv] at htok
         obtain ⟨cs, hown, hel, hK, hr⟩ := acc_row H.K hl htok
         refine app_core (xs := xs) (h := h.setT nm' none) (H.dropT nm') hW hB nm st s' t ty e i z hst ht hi hz hsz hzs h0 hb1 ys _ _ cs hown hel hr hK ?_ ?_ ?_ hby
         . intro n b' hb'
           have := H.bt n nm' b' tk hb' htk
           rwa [c1, <- hv] at this
         . intro n t' ht' g hg
           obtain ⟨hne, ht''⟩ := tok_set ht'
           intro q
           exact H.tt n nm' t' tk g hne ht'' htk hg (by rw [c1, <- hv]; exact q)
         . exact hsrc
     . cases hb
   . cases hb
 | _ => simp [appBase] at hb
theorem getB_some {blk : Nat -> Option Blk} {nm st sz : Nat} {es : List AV} (h : getB blk nm st sz = some es) : blk nm = some ⟨st, sz, es⟩ := by
 unfold getB at h
 split at h
 . rename_i b hb
   split at h
   . rename_i hc; cases h; rw [hb, <- hc.1, <- hc.2.1]
   . cases h
 . cases h
theorem getB_pos {blk : Nat -> Option Blk} {nm st sz : Nat} {es : List AV} (h : getB blk nm st sz = some es) : sz ≠ 0 := by
 unfold getB at h
 split at h
 . split at h
   . rename_i hc; exact hc.2.2
   . cases h
 . cases h
theorem cellsAt_of {E : Env} {B : Nat} {h : Hp} {w : World} (H : HConc E B h w) {a : AV} {v : Value} (ha : Rel E a v) {cs : List AV} {off : Nat} (hc : cellsAt h.blk a = some (cs, off)) :
   ∃ g o, v = .pointer (some ⟨g, o + off, none⟩) /\ (∀ y ∈ cs, y.one = true) /\ ∀ (j : Nat) (y : AV), cs[j]? = some y -> ∃ u, w.cell? ⟨g, o + j, none⟩ = some u /\ Rel E y u := by
 cases a with
 | ptr nm st sz i o' =>
   simp only [cellsAt] at hc
   cases hg : getB h.blk nm st sz with
   | none => simp [hg] at hc
   | some es =>
     simp only [hg, Option.bind_some] at hc
     cases hx : es[i]? with
     | none => simp [hx] at hc
     | some x =>
       simp only [hx, Option.map_some, Option.some.injEq, Prod.mk.injEq] at hc
       obtain ⟨rfl, rfl⟩ := hc
       have hb := getB_some hg
       have hbk := (H.bk nm _ hb).r (getB_pos hg)
       obtain ⟨cur, e, hh, hsz, hr⟩ := hbk.row
       cases ha with
       | ptr _ _ _ _ _ hu =>
         refine ⟨(E.m st).1, (E.m st).2 + i * sz, rfl, (hbk.el x (List.mem_of_getElem? hx)).2, fun j y hy => ?_⟩
         obtain ⟨u, hu, hrel⟩ := hr i x hx j y hy
         exact ⟨u, by rw [cell_of_row w _ _ cur e (0, 0) hh]; exact hu, hrel⟩
 | kp cs' o' =>
   simp only [cellsAt, Option.some.injEq, Prod.mk.injEq] at hc
   obtain ⟨rfl, rfl⟩ := hc
   cases ha with
   | kp _ _ b o f hk h1 hr =>
     refine ⟨b, o, rfl, fun y hy => ?_, fun j y hy => ⟨f j, H.K _ _ _ (hk j (List.getElem?_eq_some_iff.1 hy).1), (hr j y hy).mono E.cl_le⟩⟩
     obtain ⟨j, hj⟩ := List.getElem?_of_mem hy
     exact h1 j y hj
 | _ => simp [cellsAt] at hc
theorem load_one {P : Program} {E : Env} {B : Nat} {h : Hp} {w : World} (H : HConc E B h w) {a x : AV} {v : Value} (ha : Rel E a v) (hx : ldOne h.blk a = some x) (t : TypeId) (d : TypeDesc)
   (ht : P.underlying t = some d) (hd : (match d with | .struct _ | .array _ _ => true | _ => false) = false) :
   ∃ u, (Instr.loadAt t v).run P w = .ok u w /\ Rel E x u := by
 unfold ldOne at hx
 cases hc : cellsAt h.blk a with
 | none => simp [hc] at hx
 | some p =>
   obtain ⟨cs, off⟩ := p
   simp only [hc, Option.bind_some] at hx
   obtain ⟨g, o, rfl, _, hr⟩ := cellsAt_of H ha hc
   obtain ⟨u, hu, hrel⟩ := hr off x hx
   refine ⟨u, ?_, hrel⟩
   have hagg : (isAgg t).run P w = .ok false w := by
     unfold isAgg
     rw [Sem.run_bind, run_underlying ht w]
     cases d <;> simp_all
   simp [Instr.loadAt, Instr.sureAddr, loadVar, hagg, hu]
theorem load_agg {P : Program} {E : Env} {B : Nat} {h : Hp} {w : World} (H : HConc E B h w) {a x : AV} {v : Value} (ha : Rel E a v) (n : Nat) (hx : ldAgg h.blk n a = some x) (t : TypeId) (d : TypeDesc) (i : TypeInfo)
   (ht : P.underlying t = some d) (hd : (match d with | .struct _ | .array _ _ => true | _ => false) = true) (hi : P.info? t = some i) (hn : i.size = n) :
   ∃ u, (Instr.loadAt t v).run P w = .ok u w /\ Rel E x u := by
 subst hn
 unfold ldAgg at hx
 cases hc : cellsAt h.blk a with
 | none => simp [hc] at hx
 | some p =>
   obtain ⟨cs, off⟩ := p
   simp only [hc, Option.bind_some] at hx
   split at hx
   . rename_i hle
     cases hx
     obtain ⟨g, o, rfl, h1, hr⟩ := cellsAt_of H ha hc
     have hagg : (isAgg t).run P w = .ok true w := by
       unfold isAgg
       rw [Sem.run_bind, run_underlying ht w]
       cases d <;> simp_all
     let f : Nat -> Value := fun j => (w.cell? ⟨g, o + off + j, none⟩).getD .nilFunc
     have hf : ∀ j, j < i.size -> ∃ y, cs[off + j]? = some y /\ w.cell? ⟨g, o + off + j, none⟩ = some (f j) /\ Rel E y (f j) := by
       intro j hj
       obtain ⟨y, hy⟩ : ∃ y, cs[off + j]? = some y := ⟨_, List.getElem?_eq_getElem (by omega)⟩
       obtain ⟨u, hu, hrel⟩ := hr _ y hy
       rw [<- Nat.add_assoc] at hu
       refine ⟨y, hy, ?_, ?_⟩
       . simp only [f, hu, Option.getD_some]
       . simp only [f, hu, Option.getD_some]; exact hrel
     have hl : (loadCells ⟨g, o + off, none⟩ i.size).run P w = .ok ((List.range i.size).map f).toArray w :=
       run_loadCells w _ i.size f (fun j hj => by rw [Addr.add_mk]; exact (hf j hj).choose_spec.2.1)
     refine ⟨.agg ((List.range i.size).map f).toArray, ?_, .agg _ _ ?_ ?_ ?_⟩
     . simp [Instr.loadAt, Instr.sureAddr, loadVar, hagg, sizeOf, typeInfo, hi, hl]
     . simp; omega
     . intro j y hy
       exact h1 y (List.mem_of_mem_drop (List.mem_of_mem_take (List.mem_of_getElem? hy)))
     . intro j y u hy hu
       have hj : j < i.size := by have := (List.getElem?_eq_some_iff.1 hy).1; simp at this; omega
       obtain ⟨y', hy', _, hrel⟩ := hf j hj
       rw [List.getElem?_take, if_pos hj, List.getElem?_drop, hy'] at hy
       cases hy
       simp [hj] at hu
       rw [<- hu]; exact hrel
   . cases hx
end Go.Gv

namespace Go.Gv
open Go.RowKit
theorem seg_get {α : Type} (l vs : List α) (k p : Nat) (h : k + vs.length <= l.length) :
   (l.take k ++ vs ++ l.drop (k + vs.length))[p]? = if p < k then l[p]? else if p < k + vs.length then vs[p - k]? else l[p]? := by
 have hk : (l.take k).length = k := by simp; omega
 by_cases h1 : p < k
 . rw [if_pos h1, List.append_assoc, List.getElem?_append_left (by omega), List.getElem?_take, if_pos h1]
 . rw [if_neg h1]
   by_cases h2 : p < k + vs.length
   . rw [if_pos h2, List.append_assoc, List.getElem?_append_right (by omega), hk, List.getElem?_append_left (by omega)]
   . rw [if_neg h2, List.getElem?_append_right (by simp; omega), List.getElem?_drop]
     congr 1
     simp
     omega
theorem setCells_get (e : AV) (off sz : Nat) (vs : List AV) (he : ElemOk sz e) (hv : ∀ y ∈ vs, y.one = true) (hn : 0 < vs.length) (hle : off + vs.length <= e.cells.length) :
   ElemOk sz (setCells e off vs) /\ ∀ j, (setCells e off vs).cells[j]? = if j < off then e.cells[j]? else if j < off + vs.length then vs[j - off]? else e.cells[j]? := by
 by_cases h1 : e.one = true
 . have ec := AV.cells_one h1
   rw [ec] at hle ⊢
   simp at hle
   have h0 : off = 0 /\ vs.length = 1 := by omega
   obtain ⟨v, rfl⟩ : ∃ v, vs = [v] := List.length_eq_one_iff.1 h0.2
   have es : setCells e off [v] = v := by cases e <;> first | rfl | (simp [AV.one] at h1)
   have hv1 := hv v (by simp)
   have hs : sz = 1 := by rw [<- he.1, ec]; rfl
   rw [es, h0.1]
   refine ⟨⟨by rw [AV.cells_one hv1, hs]; rfl, fun y hy => by rw [AV.cells_one hv1] at hy; simp at hy; rw [hy]; exact hv1⟩, fun j => ?_⟩
   rw [AV.cells_one hv1]
   cases j <;> simp
 . cases e with
   | agg cs =>
     have hle' : off + vs.length <= cs.length := hle
     refine ⟨⟨?_, fun y hy => ?_⟩, fun j => seg_get cs vs off j hle'⟩
     . have := he.1
       simp only [setCells, AV.cells, List.length_append, List.length_take, List.length_drop] at this ⊢
       omega
     . simp only [setCells, AV.cells, List.mem_append] at hy
       rcases hy with (hy | hy) | hy
       . exact he.2 y (List.mem_of_mem_take hy)
       . exact hv y hy
       . exact he.2 y (List.mem_of_mem_drop hy)
   | tup cs => have := he.2 (.tup cs) (by simp [AV.cells]); simp [AV.one] at this
   | junk => have := he.2 .junk (by simp [AV.cells]); simp [AV.one] at this
   | raw v => have := he.2 (.raw v) (by simp [AV.cells]); exact absurd this h1
   | _ => simp [AV.one] at h1
theorem store_done {P : Program} {B : Nat} {W : World} {E : Env} {h : Hp} {w : World} (H : HConc E B h w) (hW : Below B W w) {nm st sz i off : Nat} {es : List AV} {e x : AV} {va vx : Value} (t : TypeId) (ti : TypeInfo)
   (hi : P.info? t = some ti) (ha : Rel E (.ptr nm st sz i off) va) (hx : Rel E x vx) (hg : getB h.blk nm st sz = some es) (he : es[i]? = some e) (hn : x.cells.length = ti.size) (h1 : x.cells.all AV.one = true)
   (hle : off + ti.size <= e.cells.length) (h0 : 0 < ti.size) :
   ∃ w', (Instr.storeAt t va vx).run P w = .ok () w' /\ HConc E B (h.setB nm (some ⟨st, sz, es.set i (setCells e off x.cells)⟩)) w' /\ Below B W w' := by
 have h1' : ∀ y ∈ x.cells, y.one = true := by simpa using h1
 have hb := getB_some hg
 have hs0 := getB_pos hg
 have hbk := (H.bk nm _ hb).r hs0
 have hbu := H.bu nm _ hb
 obtain ⟨cur, ty, hh, hsz, hr⟩ := hbk.row
 simp only at hh hsz hr hbu
 have hcpl : es.length <= E.cp st := hbk.len
 have hsz0 := hsz
 have hsz : (E.m st).2 + es.length * sz <= cur.size := by have := Nat.mul_le_mul_right sz hcpl; omega
 obtain ⟨c1, c2⟩ := hx.cells h1'
 have hel : ElemOk sz e := hbk.el e (List.mem_of_getElem? he)
 have hil : i < es.length := (List.getElem?_eq_some_iff.1 he).1
 obtain ⟨q1, q2⟩ := setCells_get e off sz x.cells hel h1' (by omega) (by omega)
 cases ha with
 | ptr _ _ _ _ _ hu =>
   have hlen : vx.cells.toList.length = x.cells.length := by simpa using c1
   have hone : ∀ u ∈ vx.cells.toList, u.oneCell' = true := by
     intro u hu
     obtain ⟨j, hj⟩ := List.getElem?_of_mem hu
     have hjl : j < x.cells.length := by rw [<- hlen]; exact (List.getElem?_eq_some_iff.1 hj).1
     obtain ⟨u', hu', _, ho⟩ := c2 j _ (List.getElem?_eq_getElem hjl)
     have : vx.cells[j]? = some u := by simpa using hj
     rw [this] at hu'
     cases hu'
     exact ho
   have hmul : i * sz + e.cells.length <= es.length * sz := by
     have : (i + 1) * sz <= es.length * sz := Nat.mul_le_mul_right _ hil
     rw [Nat.add_mul] at this
     rw [hel.1]; omega
   have hfit : (E.m st).2 + i * sz + off + 0 + vx.cells.toList.length <= cur.size := by rw [hlen]; omega
   have hst := run_storeCells_at P (E.m st).1 ((E.m st).2 + i * sz + off) ty vx.cells.toList 0 cur w hh hfit hone
   simp only [Nat.add_zero] at hst
   generalize hcur' : (cur.toList.take ((E.m st).2 + i * sz + off) ++ vx.cells.toList ++ cur.toList.drop ((E.m st).2 + i * sz + off + vx.cells.toList.length)).toArray = cur' at hst
   have hget : ∀ p, cur'[p]? = if p < (E.m st).2 + i * sz + off then cur[p]? else if p < (E.m st).2 + i * sz + off + x.cells.length then vx.cells[p - ((E.m st).2 + i * sz + off)]? else cur[p]? := by
     intro p
     rw [<- hcur']
     have := seg_get cur.toList vx.cells.toList ((E.m st).2 + i * sz + off) p (by simp only [Array.length_toList]; rw [Array.length_toList] at hlen; rw [Nat.add_zero, Array.length_toList] at hfit; exact hfit)
     rw [List.getElem?_toArray, this, hlen]
     simp
   have hsize : cur'.size = cur.size := by
     rw [<- hcur']
     have := hfit
     simp only [List.size_toArray, List.length_append, List.length_take, List.length_drop, Array.length_toList] at this ⊢
     omega
   refine ⟨w.setRow (E.m st).1 cur', ?_, ?_, ?_⟩
   . have hcs : ¬ (vx.cells.size ≠ ti.size) := by rw [c1, hn]; simp
     simp only [Instr.storeAt, Instr.sureAddr, storeVar, sizeOf, typeInfo, hi, Sem.run_bind, Sem.run_pure, run_program, Result.andThen_ok]
     rw [if_neg hcs]
     exact hst
   . have H1 : HConc E B (h.setB nm none) (w.setRow (E.m st).1 cur') := by
       refine (H.dropB nm).change ?_ ?_ ?_
       . intro b o v hk
         have hne : b ≠ (E.m st).1 := fun q => by rw [q, hbk.noK o] at hk; cases hk
         rw [cell_setRow_other w _ _ _ hne]
         exact H.K b o v hk
       . intro n b hb'
         have : n ≠ nm /\ h.blk n = some b := by
           simp only [Hp.setB, upd] at hb'
           split at hb'
           . simp at hb'
           . rename_i hne; exact ⟨hne, hb'⟩
         exact setRow_other w _ _ _ (H.bb n nm b _ this.1 this.2 hb)
       . intro n t' g ht' hg'
         exact setRow_other w _ _ _ (fun q => H.bt nm n _ t' hb ht' (by rw [hg', q]))
     refine H1.putB ⟨st, sz, _⟩ hbu (.row hs0 ⟨hbk.base, ?_, by simp only [List.length_set]; exact hbk.len, ?_, hbk.noK⟩) (fun n b' hn hb' => by have := H.bb n nm b' _ hn hb' hb; exact this) (fun n t' ht' => by have := H.bt nm n _ t' hb ht'; exact this)
     . intro y hy
       rcases List.mem_or_eq_of_mem_set hy with hy | hy
       . exact hbk.el y hy
       . rw [hy]; exact q1
     . refine ⟨cur', ty, setRow_heap w _ cur _ ty _ hh, by rw [hsize]; exact hsz0, ?_⟩
       intro i' y hy j z hz
       show ∃ u, cur'[(E.m st).2 + i' * sz + j]? = some u /\ Rel E z u
       have hy : (es.set i (setCells e off x.cells))[i']? = some y := hy
       rw [List.getElem?_set] at hy
       by_cases hii : i = i'
       . subst hii
         simp only [if_true, hil] at hy
         cases hy
         rw [q2] at hz
         have hjl : j < sz := by rw [<- q1.1]; exact (List.getElem?_eq_some_iff.1 ((q2 j).trans hz)).1
         rw [hget]
         by_cases p1 : j < off
         . rw [if_pos p1] at hz
           rw [if_pos (by omega)]
           exact hr i e he j z hz
         . rw [if_neg p1] at hz
           rw [if_neg (by omega)]
           by_cases p2 : j < off + x.cells.length
           . rw [if_pos p2] at hz
             rw [if_pos (by omega)]
             obtain ⟨u, hu', hrel, _⟩ := c2 _ z hz
             refine ⟨u, ?_, hrel⟩
             rw [show (E.m st).2 + i * sz + j - ((E.m st).2 + i * sz + off) = j - off by omega]
             exact hu'
           . rw [if_neg p2] at hz
             rw [if_neg (by omega)]
             exact hr i e he j z hz
       . rw [if_neg hii] at hy
         obtain ⟨u, hu', hrel⟩ := hr i' y hy j z hz
         refine ⟨u, ?_, hrel⟩
         have hely : ElemOk sz y := hbk.el y (List.mem_of_getElem? hy)
         have hj : j < sz := by rw [<- hely.1]; exact (List.getElem?_eq_some_iff.1 hz).1
         rw [hget]
         by_cases hlt : i' < i
         . have : (i' + 1) * sz <= i * sz := Nat.mul_le_mul_right _ hlt
           rw [Nat.add_mul] at this
           rw [if_pos (by omega)]
           exact hu'
         . have : (i + 1) * sz <= i' * sz := Nat.mul_le_mul_right _ (by omega)
           rw [Nat.add_mul] at this
           have hes := hel.1
           rw [if_neg (by omega), if_neg (by omega)]
           exact hu'
   . refine hW.trans ⟨rfl, rfl, rfl, by simp, fun k hk => setRow_other w _ _ _ (fun q => ?_)⟩
     have := hbk.base
     simp only at this
     omega
theorem slice_any {P : Program} (w : World) (t e : TypeId) (ti : TypeInfo) (ht : P.underlying t = some (.slice e)) (hi : P.info? e = some ti) (a : Option Addr) (len cap : Nat) (hc : len <= cap)
   (lo hi' : Option Value) (l h : Nat) (hlo : lo = none /\ l = 0 \/ ∃ k, lo = some (.int k l)) (hhi : hi' = none /\ h = len \/ ∃ k, hi' = some (.int k h)) (h1 : l <= h) (h2 : h <= len) :
   (Instr.sliceAt t (.slice a len cap) lo hi' none).run P w = .ok (.slice (if cap = l then a else a.map (·.add (l * ti.size))) (h - l) (cap - l)) w := by
 have g1 : h <= cap := by omega
 rcases hlo with ⟨rfl, rfl⟩ | ⟨k, rfl⟩ <;> rcases hhi with ⟨rfl, rfl⟩ | ⟨k', rfl⟩ <;>
   simp [Instr.sliceAt, Instr.slice, run_underlying ht, Instr.sliceBounds, Instr.sliceBound, asIntOf, sizeOf, typeInfo, hi, h1, g1, hc]
theorem slice_done {P : Program} {E : Env} {B : Nat} {h : Hp} {w : World} (H : HConc E B h w) {x r : AV} {v : Value} (hx : Rel E x v) (so : Option Nat) (lo hi : Option Nat) (hr : sliceA so x lo hi = some r)
   (t : TypeId) (hty : (so = none /\ P.underlying t = some .string) \/ ∃ e ti, so = some ti.size /\ P.underlying t = some (.slice e) /\ P.info? e = some ti)
   (vlo vhi : Option Value) (hlo : (lo = none /\ vlo = none) \/ ∃ k n, lo = some n /\ vlo = some (.int k n)) (hhi : (hi = none /\ vhi = none) \/ ∃ k n, hi = some n /\ vhi = some (.int k n)) :
   ∃ u, (Instr.sliceAt t v vlo vhi none).run P w = .ok u w /\ Rel E r u := by
 have lstcase : ∀ (e : TypeId) (ti : TypeInfo) sz xs, ti.size = sz -> Rel E (.lst sz xs) v -> P.underlying t = some (.slice e) -> P.info? e = some ti -> (lo.getD 0 <= hi.getD xs.length /\ hi.getD xs.length <= xs.length) -> r = .lst sz ((xs.take (hi.getD xs.length)).drop (lo.getD 0)) ->
     ∃ u, (Instr.sliceAt t v vlo vhi none).run P w = .ok u w /\ Rel E r u := by
   intro e ti sz xs hs hrel ht hti hle hrr
   subst hrr hs
   have hlen : ∃ a cap, v = .slice a xs.length cap /\ xs.length <= cap := by
     cases hrel with
     | lst0 _ a cap => exact ⟨a, cap, rfl, Nat.zero_le _⟩
     | lst _ b o _ cap f hcap _ _ _ _ => exact ⟨_, cap, rfl, hcap⟩
   obtain ⟨a, cap, ev, hcap⟩ := hlen
   have hrun := slice_any (P := P) w t e ti ht hti a xs.length cap hcap vlo vhi (lo.getD 0) (hi.getD xs.length)
     (by rcases hlo with ⟨e1, e2⟩ | ⟨k, n, e1, e2⟩ <;> subst e1 e2 <;> simp) (by rcases hhi with ⟨e1, e2⟩ | ⟨k, n, e1, e2⟩ <;> subst e1 e2 <;> simp) hle.1 hle.2
   rw [ev, hrun]
   refine ⟨_, rfl, ?_⟩
   have hl : ((xs.take (hi.getD xs.length)).drop (lo.getD 0)).length = hi.getD xs.length - lo.getD 0 := by
     rw [List.length_drop, List.length_take]; omega
   by_cases hz : hi.getD xs.length - lo.getD 0 = 0
   . have e0 : (xs.take (hi.getD xs.length)).drop (lo.getD 0) = [] := List.eq_nil_of_length_eq_zero (by rw [hl, hz])
     rw [e0, hz]
     exact .lst0 _ _ _
   . subst ev
     have hne : cap ≠ lo.getD 0 := by omega
     cases hrel with
     | lst0 _ a cap => simp at hz hle; omega
     | lst _ b o _ cap f hcap hsz' hk h1 hr' =>
       rw [if_neg hne, Option.map_some, Addr.add_mk, <- hl]
       have hidx : ∀ i y, ((xs.take (hi.getD xs.length)).drop (lo.getD 0))[i]? = some y -> xs[lo.getD 0 + i]? = some y := by
         intro i y hy
         rw [List.getElem?_drop, List.getElem?_take] at hy
         split at hy
         . exact hy
         . cases hy
       refine .lst _ b _ ti.size _ (fun i j => f (lo.getD 0 + i) j) (by omega) (fun y hy => hsz' y (List.mem_of_mem_take (List.mem_of_mem_drop hy))) ?_ ?_ ?_
       . intro i j hi' hj
         have := hk (lo.getD 0 + i) j (by omega) hj
         rwa [show o + lo.getD 0 * ti.size + i * ti.size + j = o + (lo.getD 0 + i) * ti.size + j by rw [Nat.add_mul]; omega]
       . exact fun i y hy => h1 _ y (hidx i y hy)
       . exact fun i y hy => hr' _ y (hidx i y hy)
 cases x with
 | lst sz xs =>
   simp only [sliceA] at hr
   split at hr
   . rename_i hle; cases hr
     rcases hty with ⟨e1, _⟩ | ⟨e, ti, e1, g1, g2⟩
     . rw [e1] at hle; simp at hle
     . rw [e1] at hle; exact lstcase e ti sz xs (by simpa using hle.1) hx g1 g2 hle.2 rfl
   . cases hr
 | acc nm st sz xs =>
   simp only [sliceA] at hr
   split at hr
   . rename_i hle; cases hr
     rcases hty with ⟨e1, _⟩ | ⟨e, ti, e1, g1, g2⟩
     . rw [e1] at hle; simp at hle
     . cases hx with
       | acc _ _ _ _ _ _ _ hl => rw [e1] at hle; exact lstcase e ti sz xs (by simpa using hle.1) hl g1 g2 hle.2 rfl
   . cases hr
 | nils =>
   simp only [sliceA] at hr
   split at hr
   . rename_i hle; cases hr
     rcases hty with ⟨e1, _⟩ | ⟨e, ti, e1, g1, g2⟩
     . exact absurd e1 hle.1
     . have ev := hx.nils_inv
       subst ev
       have hle := hle.2
       have hrun := slice_any (P := P) w t e ti g1 g2 none 0 0 (Nat.le_refl _) vlo vhi 0 0
         (by rcases hlo with ⟨e1, e2⟩ | ⟨k, n, e1, e2⟩ <;> subst e1 e2 <;> simp at hle ⊢; omega) (by rcases hhi with ⟨e1, e2⟩ | ⟨k, n, e1, e2⟩ <;> subst e1 e2 <;> simp at hle ⊢; omega) (Nat.le_refl _) (Nat.le_refl _)
       exact ⟨_, hrun, by simpa using Rel.nils⟩
   . cases hr
 | sl nm st sz off len =>
   simp only [sliceA] at hr
   split at hr
   . rename_i hle; cases hr
     rcases hty with ⟨e1, _⟩ | ⟨e, ti, e1, g1, g2⟩
     . rw [e1] at hle; simp at hle
     . rw [e1] at hle
       obtain ⟨hs, hle⟩ := hle
       have hs : ti.size = sz := by simpa using hs
       subst hs
       cases hx with
       | sl _ _ _ _ _ cap a hu hcap hc ha =>
         have hrun := slice_any (P := P) w t e ti g1 g2 a len cap hcap vlo vhi (lo.getD 0) (hi.getD len)
           (by rcases hlo with ⟨e1, e2⟩ | ⟨k, n, e1, e2⟩ <;> subst e1 e2 <;> simp) (by rcases hhi with ⟨e1, e2⟩ | ⟨k, n, e1, e2⟩ <;> subst e1 e2 <;> simp) hle.1 hle.2
         refine ⟨_, hrun, .sl _ _ _ _ _ _ _ hu (by omega) (by omega) (fun hpos => ?_)⟩
         have hne : cap ≠ lo.getD 0 := by omega
         rw [if_neg hne, ha (by omega), Option.map_some, Addr.add_mk]
         rw [show (E.m st).2 + off * ti.size + lo.getD 0 * ti.size = (E.m st).2 + (off + lo.getD 0) * ti.size by rw [Nat.add_mul]; omega]
   . cases hr
 | str s =>
   simp only [sliceA] at hr
   split at hr
   . rename_i hle; cases hr
     rcases hty with ⟨_, g1⟩ | ⟨e, ti, e1, _, _⟩
     . have ev := hx.str_inv
       subst ev
       refine ⟨.string (s.extract (lo.getD 0) (hi.getD s.size)), ?_, .str _⟩
       have q1 : (lo.getD 0) <= hi.getD s.size := hle.2.1
       have q2 : hi.getD s.size <= s.size := hle.2.2
       rcases hlo with ⟨rfl, rfl⟩ | ⟨k, n, rfl, rfl⟩ <;> rcases hhi with ⟨rfl, rfl⟩ | ⟨k', n', rfl, rfl⟩ <;> simp at q1 q2 <;>
         simp [Instr.sliceAt, Instr.slice, run_underlying g1, Instr.sliceBounds, Instr.sliceBound, asIntOf, q1, q2]
     . rw [hle.1] at e1; cases e1
   . cases hr
 | _ => simp [sliceA] at hr
theorem idx_done {P : Program} {E : Env} {B : Nat} {h : Hp} {w : World} (H : HConc E B h w) {x r : AV} {v : Value} (hx : Rel E x v) (i sz : Nat) (hr : idxA h.blk sz x i = some r)
   (t e : TypeId) (ti : TypeInfo) (ht : P.underlying t = some (.slice e)) (hi : P.info? e = some ti) (hsz : ti.size = sz) (k : IntKind) :
   ∃ u, (Instr.indexAt t v (.int k i)).run P w = .ok u w /\ Rel E r u := by
 subst hsz
 have run1 : ∀ (ad : Addr) (len cap : Nat), i < len -> (Instr.indexAt t (.slice (some ad) len cap) (.int k i)).run P w = .ok (.pointer (some (ad.add (i * ti.size)))) w := by
   intro ad len cap hil
   have q : (0 : Int) <= (i : Int) /\ (i : Int) < (len : Int) := by omega
   simp [Instr.indexAt, run_underlying ht, asIntOf, sizeOf, typeInfo, hi, hil]
 have lstcase : ∀ xs, Rel E (.lst ti.size xs) v -> ∀ y, xs[i]? = some y -> r = .kp y.cells 0 -> ∃ u, (Instr.indexAt t v (.int k i)).run P w = .ok u w /\ Rel E r u := by
   intro xs hrel y hy hrr
   subst hrr
   have hil := (List.getElem?_eq_some_iff.1 hy).1
   cases hrel with
   | lst0 _ a cap => simp at hy
   | lst _ b o _ cap f hcap hsz' hk h1 hr' =>
     refine ⟨_, run1 _ _ _ hil, ?_⟩
     rw [Addr.add_mk]
     have hl := hsz' y (List.mem_of_getElem? hy)
     have := Rel.kp (E := E) y.cells 0 b (o + i * ti.size) (f i) (fun j hj => hk i j hil (by omega)) (h1 i y hy) (hr' i y hy)
     simpa using this
 cases x with
 | lst s xs =>
   simp only [idxA] at hr
   split at hr
   . rename_i es; subst es
     cases hy : xs[i]? with
     | none => simp [hy] at hr
     | some y => simp [hy] at hr; exact lstcase xs hx y hy hr.symm
   . cases hr
 | acc nm st s xs =>
   simp only [idxA] at hr
   split at hr
   . rename_i es; subst es
     cases hx with
     | acc _ _ _ _ _ _ _ hl =>
       cases hy : xs[i]? with
       | none => simp [hy] at hr
       | some y => simp [hy] at hr; exact lstcase xs hl y hy hr.symm
   . cases hr
 | sl nm st s off len =>
   simp only [idxA] at hr
   split at hr
   . rename_i hc
     obtain ⟨es, hil⟩ := hc
     subst es
     cases hr
     cases hx with
     | sl _ _ _ _ _ cap a hu hcap hc ha =>
       have ea := ha (by omega)
       subst ea
       refine ⟨_, run1 _ _ _ hil, ?_⟩
       rw [Addr.add_mk]
       have := Rel.ptr (E := E) nm st ti.size (off + i) 0 hu
       rw [show (E.m st).2 + off * ti.size + i * ti.size = (E.m st).2 + (off + i) * ti.size + 0 by rw [Nat.add_mul]; omega]
       exact this
   . cases hr
 | _ => simp [idxA] at hr
end Go.Gv

namespace Go.Gv
open Go.RowKit
theorem fold_list (off : Nat) : ∀ (l : List Value) (s : Nat) (arr : Array Value), off + s + l.length <= arr.size ->
   ((l.zipIdx s).foldl (fun cs (x : Value × Nat) => cs.setIfInBounds (off + x.2) x.1) arr).size = arr.size /\
   ∀ p, ((l.zipIdx s).foldl (fun cs (x : Value × Nat) => cs.setIfInBounds (off + x.2) x.1) arr)[p]? = if off + s <= p /\ p < off + s + l.length then l[p - (off + s)]? else arr[p]?
 | [], s, arr, _ => by simp; intro p h1 h2; omega
 | c :: l, s, arr, h => by
   have h' : off + (s + 1) + l.length <= (arr.setIfInBounds (off + s) c).size := by simp at h ⊢; omega
   obtain ⟨e1, e2⟩ := fold_list off l (s + 1) (arr.setIfInBounds (off + s) c) h'
   rw [List.zipIdx_cons, List.foldl_cons]
   refine ⟨by rw [e1]; simp, fun p => ?_⟩
   rw [e2 p]
   simp only [List.length_cons] at h ⊢
   by_cases hp : p = off + s
   . subst hp
     rw [if_neg (by omega), if_pos (by omega), Nat.sub_self, List.getElem?_cons_zero, Array.getElem?_setIfInBounds_self_of_lt (by omega)]
   . by_cases hq : off + (s + 1) <= p /\ p < off + (s + 1) + l.length
     . rw [if_pos hq, if_pos (by omega)]
       rw [show p - (off + s) = (p - (off + (s + 1))) + 1 by omega]
       simp
     . rw [if_neg hq, if_neg (by omega), Array.getElem?_setIfInBounds]
       rw [if_neg (by omega)]
theorem fold_get (off : Nat) (v : Array Value) (arr : Array Value) (h : off + v.size <= arr.size) :
   (v.zipIdx.foldl (fun cs (x : Value × Nat) => cs.setIfInBounds (off + x.2) x.1) arr).size = arr.size /\
   ∀ p, (v.zipIdx.foldl (fun cs (x : Value × Nat) => cs.setIfInBounds (off + x.2) x.1) arr)[p]? = if off <= p /\ p < off + v.size then v[p - off]? else arr[p]? := by
 have := fold_list off v.toList 0 arr (by simpa using h)
 rw [<- Array.foldl_toList]
 simp only [Nat.add_zero, Array.length_toList, Array.getElem?_toList] at this
 have e : v.zipIdx.toList = v.toList.zipIdx := by simp
 rw [e]
 exact this
def CellsRel (E : Env) (cs : List AV) (vs : Array Value) : Prop := vs.size = cs.length /\ (∀ y ∈ cs, y.one = true) /\ ∀ (j : Nat) (y : AV) (v : Value), cs[j]? = some y -> vs[j]? = some v -> Rel E y v
inductive Parts (E : Env) (place : Nat -> Option (Nat × Nat)) : List (Nat × List AV) -> List (Nat × Value) -> Prop
 | nil : Parts E place [] []
 | cons {off i : Nat} {x : AV} {v : Value} {as : List (Nat × List AV)} {vs : List (Nat × Value)} (hp : place i = some (off, x.cells.length)) (hr : Rel E x v) (h : Parts E place as vs) :
     Parts E place ((off, x.cells) :: as) ((i, v) :: vs)
theorem fill_ok {E : Env} {place : Nat -> Option (Nat × Nat)} {as : List (Nat × List AV)} {vs : List (Nat × Value)} (h : Parts E place as vs) :
   ∀ (cs cs' : List AV) (zs : Array Value), CellsRel E cs zs -> fillA 0 cs as = some cs' -> ∃ zs', Instr.fill place zs vs = some zs' /\ CellsRel E cs' zs' := by
 induction h with
 | nil => intro cs cs' zs hz hf; cases hf; exact ⟨zs, rfl, hz⟩
 | @cons off i x v as vs hp hr _ ih =>
   intro cs cs' zs hz hf
   simp only [fillA] at hf
   split at hf
   . rename_i hc
     obtain ⟨hle, h1⟩ := hc
     have h1' : ∀ y ∈ x.cells, y.one = true := by simpa using h1
     obtain ⟨c1, c2⟩ := hr.cells h1'
     have hfit : off + v.cells.size <= zs.size := by rw [c1, hz.1]; exact hle
     obtain ⟨s1, s2⟩ := fold_get off v.cells zs hfit
     have hnew : CellsRel E (cs.take off ++ x.cells ++ cs.drop (off + x.cells.length)) (v.cells.zipIdx.foldl (fun cs (x : Value × Nat) => cs.setIfInBounds (off + x.2) x.1) zs) := by
       refine ⟨?_, ?_, ?_⟩
       . rw [s1, hz.1]; simp; omega
       . intro y hy
         simp only [List.mem_append] at hy
         rcases hy with (hy | hy) | hy
         . exact hz.2.1 y (List.mem_of_mem_take hy)
         . exact h1' y hy
         . exact hz.2.1 y (List.mem_of_mem_drop hy)
       . intro j y u hy hu
         rw [seg_get _ _ _ _ hle] at hy
         rw [s2 j, c1] at hu
         by_cases p1 : j < off
         . rw [if_pos p1] at hy; rw [if_neg (by omega)] at hu; exact hz.2.2 j y u hy hu
         . rw [if_neg p1] at hy
           by_cases p2 : j < off + x.cells.length
           . rw [if_pos p2] at hy; rw [if_pos (by omega)] at hu
             obtain ⟨u', hu', hrel, _⟩ := c2 _ y hy
             rw [hu] at hu'; cases hu'; exact hrel
           . rw [if_neg p2] at hy; rw [if_neg (by omega)] at hu; exact hz.2.2 j y u hy hu
     obtain ⟨zs', hz1, hz2⟩ := ih _ _ _ hnew hf
     refine ⟨zs', ?_, hz2⟩
     simp only [Instr.fill, hp]
     rw [if_neg (by simp [c1]; rw [hz.1]; omega)]
     exact hz1
   . cases hf
def RowRel (E : Env) (sz : Nat) (es : List AV) (arr : Array Value) : Prop :=
 arr.size = es.length * sz /\ (∀ x ∈ es, ElemOk sz x) /\ ∀ (i : Nat) (x : AV), es[i]? = some x -> ∀ (j : Nat) (y : AV), x.cells[j]? = some y -> ∃ u, arr[i * sz + j]? = some u /\ Rel E y u /\ u.oneCell' = true
theorem RowRel.set {E : Env} {sz : Nat} {es : List AV} {arr : Array Value} (h : RowRel E sz es arr) {i : Nat} (hi : i < es.length) {x : AV} {v : Value} (hx : Rel E x v) (hel : ElemOk sz x) :
   (i * sz + v.cells.size <= arr.size) /\ RowRel E sz (es.set i x) (v.cells.zipIdx.foldl (fun cs (x : Value × Nat) => cs.setIfInBounds (i * sz + x.2) x.1) arr) := by
 obtain ⟨c1, c2⟩ := hx.cells hel.2
 have hmul : i * sz + sz <= es.length * sz := by
   have : (i + 1) * sz <= es.length * sz := Nat.mul_le_mul_right _ hi
   rw [Nat.add_mul] at this; omega
 have hfit : i * sz + v.cells.size <= arr.size := by rw [c1, hel.1, h.1]; exact hmul
 obtain ⟨s1, s2⟩ := fold_get (i * sz) v.cells arr hfit
 refine ⟨hfit, by rw [s1, h.1]; simp, ?_, ?_⟩
 . intro y hy
   rcases List.mem_or_eq_of_mem_set hy with hy | hy
   . exact h.2.1 y hy
   . rw [hy]; exact hel
 . intro i' y hy j z hz
   rw [s2, c1, hel.1]
   rw [List.getElem?_set] at hy
   by_cases hii : i = i'
   . subst hii
     simp only [if_true, hi] at hy
     cases hy
     have hj : j < sz := by rw [<- hel.1]; exact (List.getElem?_eq_some_iff.1 hz).1
     rw [if_pos (by omega), show i * sz + j - i * sz = j by omega]
     exact c2 j z hz
   . rw [if_neg hii] at hy
     have hj : j < sz := by rw [<- (h.2.1 y (List.mem_of_getElem? hy)).1]; exact (List.getElem?_eq_some_iff.1 hz).1
     rw [if_neg ?_]
     . exact h.2.2 i' y hy j z hz
     . intro q
       by_cases hlt : i' < i
       . have : (i' + 1) * sz <= i * sz := Nat.mul_le_mul_right _ hlt
         rw [Nat.add_mul] at this; omega
       . have : (i + 1) * sz <= i' * sz := Nat.mul_le_mul_right _ (by omega)
         rw [Nat.add_mul] at this; omega
theorem rows_fill {E : Env} {sz : Nat} : ∀ (ps : List (Nat × AV)) (vs : List (Nat × Value)) (es : List AV) (arr : Array Value), RowRel E sz es arr -> ps.length = vs.length ->
   (∀ (k : Nat) (p : Nat × AV) (q : Nat × Value), ps[k]? = some p -> vs[k]? = some q -> p.1 = q.1 /\ Rel E p.2 q.2) -> (∀ p ∈ ps, ElemOk sz p.2 /\ p.1 < es.length) ->
   ∃ arr', Instr.fill (fun i => some (i * sz, sz)) arr vs = some arr' /\ RowRel E sz (ps.foldl (fun es p => es.set p.1 p.2) es) arr'
 | [], vs, es, arr, h, hl, _, _ => by
   have : vs = [] := List.eq_nil_of_length_eq_zero (by simpa using hl.symm)
   subst this
   exact ⟨arr, rfl, h⟩
 | p :: ps, [], es, arr, h, hl, _, _ => by simp at hl
 | p :: ps, q :: vs, es, arr, h, hl, hrel, hok => by
   obtain ⟨e1, e2⟩ := hrel 0 p q rfl rfl
   obtain ⟨o1, o2⟩ := hok p (by simp)
   obtain ⟨f1, f2⟩ := h.set o2 e2 o1
   obtain ⟨arr', g1, g2⟩ := rows_fill ps vs _ _ f2 (by simpa using hl) (fun k a b ha hb => hrel (k + 1) a b (by simpa using ha) (by simpa using hb)) (fun a ha => ⟨(hok a (by simp [ha])).1, by simp; exact (hok a (by simp [ha])).2⟩)
   refine ⟨arr', ?_, g2⟩
   obtain ⟨c1, _⟩ := e2.cells o1.2
   cases q with
   | mk i v =>
     simp only at e1 e2 f1 c1
     subst e1
     simp only [Instr.fill]
     rw [if_neg (by simp [c1, o1.1]; rw [c1, o1.1] at f1; omega)]
     exact g1
theorem RowRel.zeros {E : Env} {sz : Nat} {z : AV} {zv : Value} (hz : Rel E z zv) (hel : ElemOk sz z) (n : Nat) (arr : Array Value) (hs : arr.size = n * sz)
   (ha : ∀ k, k < n * sz -> arr[k]? = zv.cells[k % sz]?) : RowRel E sz (List.replicate n z) arr := by
 obtain ⟨c1, c2⟩ := hz.cells hel.2
 refine ⟨by simpa using hs, fun x hx => by rw [List.eq_of_mem_replicate hx]; exact hel, ?_⟩
 intro i x hx j y hy
 have hi : i < n := by have := (List.getElem?_eq_some_iff.1 hx).1; simpa using this
 have ex : x = z := List.eq_of_mem_replicate (List.mem_of_getElem? hx)
 subst ex
 have hj : j < sz := by rw [<- hel.1]; exact (List.getElem?_eq_some_iff.1 hy).1
 obtain ⟨u, hu, hr, ho⟩ := c2 j y hy
 refine ⟨u, ?_, hr, ho⟩
 rw [ha _ (mul_lt hi hj), Nat.mul_comm, Nat.mul_add_mod, Nat.mod_eq_of_lt hj]
 exact hu
def ofC1 : Value -> AV
 | .bool b => .bool b
 | .int k n => .int k n
 | .string s => .str s
 | .pointer none => .nilp
 | .slice none 0 0 => .nils
 | .nilFunc => .nilf
 | v => .raw v
def ofC : Value -> AV
 | .agg cs => if cs.all Value.oneCell' = true then .agg (cs.toList.map ofC1) else .raw (.agg cs)
 | v => ofC1 v
theorem Rel_ofC1 (E : Env) (v : Value) : Rel E (ofC1 v) v := by
 unfold ofC1
 split <;> first | exact .bool _ | exact .int _ _ | exact .str _ | exact .nilp | exact .nils | exact .nilf | exact .raw _
theorem one_ofC1 {v : Value} (h : v.oneCell' = true) : (ofC1 v).one = true := by
 unfold ofC1
 split <;> first | rfl | exact h
theorem Rel_ofC (E : Env) (v : Value) : Rel E (ofC v) v := by
 unfold ofC
 split
 . rename_i cs
   split
   . rename_i h
     have h' : ∀ u ∈ cs.toList, u.oneCell' = true := by
       intro u hu
       have := Array.all_eq_true'.1 h u (Array.mem_toList_iff.1 hu)
       exact this
     refine .agg _ _ (by simp) ?_ ?_
     . intro j y hy
       rw [List.getElem?_map] at hy
       cases hc : cs.toList[j]? with
       | none => simp [hc] at hy
       | some u => simp [hc] at hy; rw [<- hy]; exact one_ofC1 (h' u (List.mem_of_getElem? hc))
     . intro j y u hy hu
       rw [List.getElem?_map] at hy
       have : cs.toList[j]? = some u := by simpa using hu
       simp [this] at hy
       rw [<- hy]; exact Rel_ofC1 E u
   . exact .raw _
 . exact Rel_ofC1 E _
end Go.Gv

namespace Go.Gv
open Go.RowKit
def cX (n : Nat) : Operand -> Option X
 | .tmp t => if t < n then some (.t t) else none
 | .const v => some (.c (ofC v))
 | .func f => some (.c (.fn f []))
 | .global _ => none
def cXs (n : Nat) : List Operand -> Option (List X)
 | [] => some []
 | x :: l => (cX n x).bind fun x => (cXs n l).map fun l => x :: l
def cOptX (n : Nat) : Option Operand -> Option (Option X)
 | none => some none
 | some x => (cX n x).map some
def isAggD : TypeDesc -> Bool
 | .struct _ | .array _ _ => true
 | _ => false
def nilOp (P : Program) (t : TypeId) : Operand -> Option Nat
 | .const (.slice none 0 0) => match P.underlying t with | some (.slice _) => some 0 | _ => none
 | .const (.pointer none) => match P.underlying t with | some (.pointer _) => some 1 | _ => none
 | .const .nilFunc => match P.underlying t with | some (.func _ _ _) => some 2 | _ => none
 | _ => none
def nilCmp (P : Program) (n : Nat) : Op -> Option (Nat × Bool × X)
 | .binOp op t x y _ => (nilOp P t y).bind fun kd => (cX n x).bind fun x => match op with
   | .eql => some (kd, false, x)
   | .neq => some (kd, true, x)
   | _ => none
 | _ => none
def cParts (n : Nat) : List (Nat × Operand) -> Option (List (Nat × X))
 | [] => some []
 | p :: l => (cX n p.2).bind fun x => (cParts n l).map fun l => (p.1, x) :: l
def cFields (n : Nat) (places : List (Nat × Nat)) : List (Nat × Operand) -> Option (List (Nat × Nat × X))
 | [] => some []
 | p :: l => (cX n p.2).bind fun x => (places[p.1]?).bind fun q => (cFields n places l).map fun l => (q.1, q.2, x) :: l
def placesOf (P : Program) (fs : List Field) : Option (List (Nat × Nat)) := fs.mapM fun f => (P.info? f.type).map fun i => (f.offset, i.size)
def scalarFields (P : Program) : Nat -> List Field -> Option (List Bool)
 | _, [] => some []
 | k, f :: l => if f.offset = k /\ (f.name != "_") = true then match P.underlying f.type with
   | some (.int _) => (scalarFields P (k + 1) l).map fun r => false :: r
   | some .bool => (scalarFields P (k + 1) l).map fun r => true :: r
   | _ => none else none
def scalar2 (P : Program) : Nat -> List Field -> Option (List Bool)
 | _, [] => some []
 | k, f :: l => if f.offset = k /\ (f.name != "_") = true then match P.underlying f.type with
   | some (.int _) => (scalar2 P (k + 1) l).map fun r => false :: r
   | some .bool => (scalar2 P (k + 1) l).map fun r => true :: r
   | some (.struct fs) => (scalarFields P 0 fs.toList).bind fun ks => if P.stoodInHeld f.type = false /\ (P.info? f.type).map (·.size) = some ks.length then (scalar2 P (k + ks.length) l).map fun r => ks ++ r else none
   | _ => none else none
def cOp (P : Program) (n nm : Nat) : Op -> Option AOp
 | .move x => (cX n x).map .mv
 | .assign x => (cX n x).map .mv
 | .pick c a b => (cX n c).bind fun c => (cX n a).bind fun a => (cX n b).map fun b => .pick c a b
 | .alloc e => (P.info? e).bind fun i => i.zero.bind fun z => if 0 < i.size then some (.new nm i.size (ofC z)) else none
 | .box e x => (cX n x).bind fun x => (P.info? e).bind fun i => if 0 < i.size then some (.box nm i.size x) else none
 | .build t parts => match P.underlying t with
   | some (.struct fs) => (P.info? t).bind fun i => i.zero.bind fun z => (placesOf P fs.toList).bind fun places => (cFields n places parts.toList).map fun ps => .build (ofC z).cells ps
   | _ => none
 | .buildSlice t len parts => match P.underlying t with
   | some (.slice e) => (P.info? e).bind fun i => i.zero.bind fun z => if len * i.size <= 2 ^ 24 /\ z.cells.size = i.size /\ 0 < i.size then (cParts n parts.toList).map fun ps => if nm < 1000000000 then .bsl nm i.size e len (ofC z) ps else .bslm nm i.size e len (ofC z) ps else none
   | _ => none
 | .load t x => (cX n x).bind fun x => (P.underlying t).bind fun d => if isAggD d = true then (P.info? t).map fun i => .load (some i.size) x else some (.load none x)
 | .store t a x => (cX n a).bind fun a => (cX n x).bind fun x => (P.info? t).bind fun i => if 0 < i.size then some (.store i.size a x) else none
 | .binOp op t x y _ => (cX n x).bind fun x => (cX n y).bind fun y => match P.underlying t with
   | some (.int _) => match op with
     | .shl => some (.shift true x y)
     | .shr => some (.shift false x y)
     | _ => some (.ibin op x y)
   | some .bool => match op with
     | .eql => some (.eqv false x y)
     | .neq => some (.eqv true x y)
     | _ => none
   | some .string => match op with
     | .add => some (.sbin .add x y)
     | .eql => some (.sbin .eql x y)
     | .neq => some (.sbin .neq x y)
     | _ => none
   | some (.struct fs) => (scalar2 P 0 fs.toList).bind fun ks => if P.stoodInHeld t = false /\ P.eqGuardType P.depth t = false then match op with
     | .eql => some (.eqs ks false x y)
     | .neq => some (.eqs ks true x y)
     | _ => none else none
   | _ => none
 | .nilCheck x => (cX n x).map .nilck
 | .unOp .not _ x => (cX n x).map .not
 | .unOp .neg _ x => (cX n x).map .neg
 | .convert src dst x => (cX n x).bind fun x => match P.underlying src, P.underlying dst with
   | some _, some (.int k) => some (.conv k x)
   | some (.slice _), some (.slice e) => match P.underlying e with
     | some (.int .u8) => if (src == dst) = true then some (.mark x) else none
     | _ => none
   | some (.slice e), some .string => match P.underlying e with
     | some (.int .u8) => some (.bys x)
     | _ => none
   | _, _ => none
 | .makeFunc (.func f) first caps => if first.size = 0 then (cXs n caps.toList).map fun l => .mkf f l else none
 | .makeSlice t (.tmp l) (.tmp c) => if l = c then match P.underlying t with
   | some (.slice e) => (P.info? e).bind fun i => i.zero.bind fun z => if 0 < i.bytes /\ z.cells.size = i.size /\ 0 < i.size then (cX n (.tmp l)).map fun l => .msl nm i.size i.bytes (ofC z) l else none
   | _ => none else none
 | .slice t x lo hi none => (cX n x).bind fun x => (cOptX n lo).bind fun lo => (cOptX n hi).bind fun hi => match P.underlying t with
   | some (.slice e) => (P.info? e).map fun i => .slice (some i.size) x lo hi
   | some .string => some (.slice none x lo hi)
   | _ => none
 | .fieldAddr s x f => (cX n x).bind fun x => match P.underlying s with
   | some (.struct fs) => (fs[f]?).bind fun fd => (P.info? fd.type).bind fun i => if i.size = 0 then none else some (.fld fd.offset x)
   | _ => none
 | .field t x f => (cX n x).bind fun x => match P.underlying t with
   | some (.struct fs) => (fs[f]?).bind fun fd => (P.underlying fd.type).bind fun d => (P.info? fd.type).map fun i => .getf (if isAggD d = true then some i.size else none) fd.offset x
   | _ => none
 | .indexAddr t x i => (cX n x).bind fun x => (cX n i).bind fun i => match P.underlying t with
   | some (.slice e) => (P.info? e).map fun ti => .idx ti.size x i
   | _ => none
 | .extract x i => (cX n x).map fun x => .ext x i
 | .makeMap t none => some (.mkm nm)
 | .lookup t x i false => (cX n x).bind fun x => (cX n i).bind fun i => match P.underlying t with
   | some (.map key elem) => match P.underlying key with
     | some (.int k) => (P.info? elem).bind fun inf => inf.zero.map fun z => .mget k (ofC z) x i
     | _ => none
   | _ => none
 | .mapUpdate t m x v => (cX n m).bind fun m => (cX n x).bind fun x => (cX n v).bind fun v => match P.underlying t with
   | some (.map key elem) => match P.underlying key with
     | some (.int k) => some (.mput m x v)
     | _ => none
   | _ => none
 | .call c => match c.callee with
   | .builtin .len => match c.args.toList, c.argTypes.toList with
     | [x], [t] => (cX n x).bind fun x => match P.underlying t with
       | some (.slice _) => some (.len x)
       | some .string => some (.slen x)
       | _ => none
     | _, _ => none
   | .builtin .append => match c.args.toList, c.argTypes.toList with
     | [s, x], [t, t'] => if t = t' then (cX n s).bind fun s => (cX n x).bind fun x => match P.underlying t with
       | some (.slice e) => (P.info? e).bind fun i => i.zero.bind fun z => if 0 < i.bytes /\ z.cells.size = i.size /\ 0 < i.size then (if nm < 1000000000 then some (.app nm i.size e i.bytes s x) else some (.appw nm i.size e i.bytes s x)) else none
       | _ => none else none
     | _, _ => none
   | .builtin .copy => match c.args.toList, c.argTypes.toList with
     | [x, y], [t, t'] => (cX n x).bind fun x => (cX n y).bind fun y => match P.underlying t, P.underlying t' with
       | some (.slice e), some (.slice _) => (P.info? e).map fun i => .cpy i.size x y
       | _, _ => none
     | _, _ => none
   | .builtin .max => match c.args.toList with
     | x :: l => (cX n x).bind fun x => (cXs n l).map fun l => .mm true x l
     | _ => none
   | .builtin .min => match c.args.toList with
     | x :: l => (cX n x).bind fun x => (cXs n l).map fun l => .mm false x l
     | _ => none
   | _ => none
 | _ => none
section
variable {P : Program} {B : Nat} {W : World} {E : Env} {h : Hp} {w : World} {a : Act} {f : Nat -> AV} {n nm st : Nat}
theorem cX_ok (hf : ∀ t, t < n -> Rel E (f t) (a.tmps.getD t undef)) {x : Operand} {y : X} (hx : cX n x = some y) : Rel E (y.ev f) (a.eval x) := by
 cases x with
 | tmp t =>
   simp only [cX] at hx
   split at hx
   . rename_i ht; cases hx; exact hf t ht
   . cases hx
 | const v => cases hx; exact Rel_ofC E v
 | func g => cases hx; exact .fn g [] #[] rfl (by simp)
 | global g => cases hx
theorem cXs_ok (hf : ∀ t, t < n -> Rel E (f t) (a.tmps.getD t undef)) : ∀ (l : List Operand) (ys : List X), cXs n l = some ys ->
   ys.length = l.length /\ ∀ (j : Nat) (y : X) (x : Operand), ys[j]? = some y -> l[j]? = some x -> Rel E (y.ev f) (a.eval x)
 | [], ys, h => by cases h; simp
 | x :: l, ys, h => by
   simp only [cXs, Option.bind_eq_some_iff, Option.map_eq_some_iff] at h
   obtain ⟨y, hy, ys', hys, rfl⟩ := h
   obtain ⟨e1, e2⟩ := cXs_ok hf l ys' hys
   refine ⟨by simp [e1], fun j z u hz hu => ?_⟩
   cases j with
   | zero => simp at hz hu; subst hz hu; exact cX_ok hf hy
   | succ j => exact e2 j z u (by simpa using hz) (by simpa using hu)
theorem mv_done (H : HConc E B h w) (hW : Below B W w) (hf : ∀ t, t < n -> Rel E (f t) (a.tmps.getD t undef)) (o : Oper) (x : Operand) (ho : o.op = .move x \/ o.op = .assign x) (y : X) (hx : cX n x = some y) :
   Done B W E st ((execOp a.eval o).run P w) { v := y.ev f } h := by
 refine Done.pure H hW (v := a.eval x) ?_ (cX_ok hf hx)
 rcases ho with ho | ho <;> simp [execOp, ho]
theorem new_done (H : HConc E B h w) (hW : Below B W w) (hB : B <= w.heap.size) (hst : ¬ E.u st) (o : Oper) (e : TypeId) (ho : o.op = .alloc e) (i : TypeInfo) (z : Value) (hi : P.info? e = some i) (hz : i.zero = some z) (h0 : 0 < i.size)
   (hl : (ofC z).cells.length = i.size) (h1 : (ofC z).cells.all AV.one = true) :
   Done B W E st ((execOp a.eval o).run P w) { v := .ptr nm st i.size 0 0, wb := [(nm, some ⟨st, i.size, [ofC z]⟩)] } h := by
 refine ⟨.pointer (some ⟨w.heap.size, 0, none⟩), w.alloc (.cells z.cells e), E.withM st (w.heap.size, 0) 1, .inl ?_, Env.le_withM hst _ _, fun s hs => hs.elim .inr .inl, fun _ _ _ => rfl, ?_, hW.alloc hB _, Rel.newPtr E w nm st i.size 1⟩
 . simp [execOp, ho, Instr.alloc, zeroValue, typeInfo, hi, hz, newVar, newRow]
 . exact H.newVar hB nm st i.size (by omega) hst (ofC z) z e ⟨hl, by simpa using h1⟩ (Rel_ofC E z)
theorem box_done (H : HConc E B h w) (hW : Below B W w) (hB : B <= w.heap.size) (hst : ¬ E.u st) (o : Oper) (e : TypeId) (x : Operand) (ho : o.op = .box e x) (y : AV) (hy : Rel E y (a.eval x)) (sz : Nat) (h0 : 0 < sz)
   (hl : y.cells.length = sz) (h1 : y.cells.all AV.one = true) :
   Done B W E st ((execOp a.eval o).run P w) { v := .ptr nm st sz 0 0, wb := [(nm, some ⟨st, sz, [y]⟩)] } h := by
 refine ⟨.pointer (some ⟨w.heap.size, 0, none⟩), w.alloc (.cells (a.eval x).cells e), E.withM st (w.heap.size, 0) 1, .inl ?_, Env.le_withM hst _ _, fun s hs => hs.elim .inr .inl, fun _ _ _ => rfl, ?_, hW.alloc hB _, Rel.newPtr E w nm st sz 1⟩
 . simp [execOp, ho, Instr.box, newVar, newRow]
 . exact H.newVar hB nm st sz (by omega) hst y (a.eval x) e ⟨hl, by simpa using h1⟩ hy
theorem pick_done (H : HConc E B h w) (hW : Below B W w) (o : Oper) (c x y : Operand) (ho : o.op = .pick c x y) (t : Bool) (hc : Rel E (.bool t) (a.eval c)) (vx vy : AV) (hx : Rel E vx (a.eval x)) (hy : Rel E vy (a.eval y)) :
   Done B W E st ((execOp a.eval o).run P w) { v := if t = true then vx else vy } h := by
 have ec := hc.bool_inv
 refine Done.pure H hW (v := if t = true then a.eval x else a.eval y) ?_ ?_
 . simp [execOp, ho, ec, asBool]
 . cases t <;> simpa
theorem load_done (H : HConc E B h w) (hW : Below B W w) (o : Oper) (t : TypeId) (x : Operand) (ho : o.op = .load t x) (v r : AV) (hx : Rel E v (a.eval x)) (d : TypeDesc) (ht : P.underlying t = some d)
   (hr : (isAggD d = false /\ ldOne h.blk v = some r) \/ (isAggD d = true /\ ∃ i, P.info? t = some i /\ ldAgg h.blk i.size v = some r)) :
   Done B W E st ((execOp a.eval o).run P w) { v := r } h := by
 have : ∃ u, (Instr.loadAt t (a.eval x)).run P w = .ok u w /\ Rel E r u := by
   rcases hr with ⟨hd, hl⟩ | ⟨hd, i, hi, hl⟩
   . exact load_one H hx hl t d ht (by cases d <;> simp_all [isAggD])
   . exact load_agg H hx i.size hl t d i ht (by cases d <;> simp_all [isAggD]) hi rfl
 obtain ⟨u, hu, hrel⟩ := this
 exact Done.pure H hW (v := u) (by simp [execOp, ho, hu]) hrel
theorem int_done (H : HConc E B h w) (hW : Below B W w) (o : Oper) (op : BinOp) (t ty : TypeId) (x y : Operand) (ho : o.op = .binOp op t x y ty) (k : IntKind) (p q : Int) (hx : Rel E (.int k p) (a.eval x)) (hy : Rel E (.int k q) (a.eval y))
   (r : AV) (hr : intBin op k p q = some r) : Done B W E st ((execOp a.eval o).run P w) { v := r } h := by
 have ex := hx.int_inv
 have ey := hy.int_inv
 have hg : ∀ x y : Operand, (eqGuard op t x y (.int k p) (.int k q)).run P w = .ok () w := by
   intro x y; cases op <;> simp [eqGuard]
 cases op <;> simp only [intBin] at hr <;> (try (cases hr; done))
 case quo =>
   split at hr
   . cases hr
   . rename_i hq; cases hr
     exact Done.pure H hW (v := .int k (k.wrap (p.tdiv q))) (by simp [execOp, ho, ex, ey, hg, binOp, Op.intDiv, hq]) (.int _ _)
 case rem =>
   split at hr
   . cases hr
   . rename_i hq; cases hr
     exact Done.pure H hW (v := .int k (p.tmod q)) (by simp [execOp, ho, ex, ey, hg, binOp, Op.intDiv, hq]) (.int _ _)
 case and => cases hr; exact Done.pure H hW (v := .int k (bitAnd k p q)) (by simp [execOp, ho, ex, ey, hg, binOp, Op.intBits, bitAnd]) (.int _ _)
 case or => cases hr; exact Done.pure H hW (v := .int k (bitOr k p q)) (by simp [execOp, ho, ex, ey, hg, binOp, Op.intBits, bitOr]) (.int _ _)
 case xor => cases hr; exact Done.pure H hW (v := .int k (bitXor k p q)) (by simp [execOp, ho, ex, ey, hg, binOp, Op.intBits, bitXor]) (.int _ _)
 case andNot => cases hr; exact Done.pure H hW (v := .int k (bitAndNot k p q)) (by simp [execOp, ho, ex, ey, hg, binOp, Op.intBits, bitAndNot]) (.int _ _)
 case add => cases hr; exact Done.pure H hW (v := .int k (k.wrap (p + q))) (by simp [execOp, ho, ex, ey, hg, binOp, Op.intArith]) (.int _ _)
 case sub => cases hr; exact Done.pure H hW (v := .int k (k.wrap (p - q))) (by simp [execOp, ho, ex, ey, hg, binOp, Op.intArith]) (.int _ _)
 case mul => cases hr; exact Done.pure H hW (v := .int k (k.wrap (p * q))) (by simp [execOp, ho, ex, ey, hg, binOp, Op.intArith]) (.int _ _)
 case eql => cases hr; exact Done.pure H hW (v := .bool (p == q)) (by simp [execOp, ho, ex, ey, hg, binOp, Op.intCmp]) (.bool _)
 case neq => cases hr; exact Done.pure H hW (v := .bool (p != q)) (by simp [execOp, ho, ex, ey, hg, binOp, Op.intCmp]) (.bool _)
 case lss => cases hr; exact Done.pure H hW (v := .bool (decide (p < q))) (by simp [execOp, ho, ex, ey, hg, binOp, Op.intCmp]) (.bool _)
 case leq => cases hr; exact Done.pure H hW (v := .bool (decide (p <= q))) (by simp [execOp, ho, ex, ey, hg, binOp, Op.intCmp]) (.bool _)
 case gtr => cases hr; exact Done.pure H hW (v := .bool (decide (p > q))) (by simp [execOp, ho, ex, ey, hg, binOp, Op.intCmp]) (.bool _)
 case geq => cases hr; exact Done.pure H hW (v := .bool (decide (p >= q))) (by simp [execOp, ho, ex, ey, hg, binOp, Op.intCmp]) (.bool _)
theorem len_done (H : HConc E B h w) (hW : Below B W w) (o : Oper) (x : Operand) (t : TypeId) (ho : o.op = .call { callee := .builtin .len, args := #[x], argTypes := #[t] }) (v : AV) (hx : Rel E v (a.eval x))
   (k : Nat) (hk : lenOf v = some k) (e : TypeId) (ht : P.underlying t = some (.slice e)) :
   Done B W E st ((execOp a.eval o).run P w) { v := .int .i64 k } h := by
 have hs : ∃ ad cap, a.eval x = .slice ad k cap := by
   generalize a.eval x = u at hx
   cases v with
   | nils => simp [lenOf] at hk; subst hk; exact ⟨_, _, hx.nils_inv⟩
   | lst sz xs =>
     simp [lenOf] at hk; subst hk
     cases hx with
     | lst0 _ ad cap => exact ⟨ad, cap, rfl⟩
     | lst _ b o _ cap _ _ _ _ _ _ => exact ⟨_, cap, rfl⟩
   | acc nm st sz xs =>
     simp [lenOf] at hk; subst hk
     cases hx with
     | acc _ _ _ _ _ _ _ hl =>
       cases hl with
       | lst0 _ ad cap => exact ⟨ad, cap, rfl⟩
       | lst _ b o _ cap _ _ _ _ _ _ => exact ⟨_, cap, rfl⟩
   | sl nm st sz off len =>
     simp [lenOf] at hk; subst hk
     cases hx with
     | sl _ _ _ _ _ cap ad _ _ _ _ => exact ⟨ad, cap, rfl⟩
   | _ => simp [lenOf] at hk
 obtain ⟨ad, cap, e1⟩ := hs
 have hrun : (Builtin.len_ #[t] o.type #[a.eval x]).run P w = .ok (goInt k) w := by simp [e1, Builtin.len_, run_underlying ht]
 refine Done.pure H hW (v := goInt k) ?_ (.int _ _)
 simp [execOp, ho, resolve, invoke, builtin, hrun]
theorem slen_done (H : HConc E B h w) (hW : Below B W w) (o : Oper) (x : Operand) (t : TypeId) (ho : o.op = .call { callee := .builtin .len, args := #[x], argTypes := #[t] }) (s : ByteArray) (hx : Rel E (.str s) (a.eval x))
   (ht : P.underlying t = some .string) : Done B W E st ((execOp a.eval o).run P w) { v := .int .i64 s.size } h := by
 have hrun : (Builtin.len_ #[t] o.type #[a.eval x]).run P w = .ok (goInt s.size) w := by simp [hx.str_inv, Builtin.len_, run_underlying ht]
 refine Done.pure H hW (v := goInt s.size) ?_ (.int _ _)
 simp [execOp, ho, resolve, invoke, builtin, hrun]
theorem fld_done (H : HConc E B h w) (hW : Below B W w) (o : Oper) (s : TypeId) (x : Operand) (g : Nat) (ho : o.op = .fieldAddr s x g) (fs : Array Field) (hs : P.underlying s = some (.struct fs)) (fd : Field) (hfd : fs[g]? = some fd)
   (i : TypeInfo) (hi : P.info? fd.type = some i) (h0 : i.size ≠ 0) (v r : AV) (hx : Rel E v (a.eval x))
   (hr : (∃ nm st sz k off, v = .ptr nm st sz k off /\ r = .ptr nm st sz k (off + fd.offset)) \/ ∃ cs off, v = .kp cs off /\ r = .kp cs (off + fd.offset)) :
   Done B W E st ((execOp a.eval o).run P w) { v := r } h := by
 have key : ∀ b q, a.eval x = .pointer (some ⟨b, q, none⟩) -> (execOp a.eval o).run P w = .ok (.value (.pointer (some ⟨b, q + fd.offset, none⟩))) w := by
   intro b q e
   simp [execOp, ho, e, Instr.fieldAt, run_underlying hs, hfd, Instr.sureAddr, fieldPlace, sizeOf, typeInfo, hi, h0, Addr.add_mk]
 rcases hr with ⟨nm, st', sz, k, off, rfl, rfl⟩ | ⟨cs, off, rfl, rfl⟩
 . generalize hv : a.eval x = u at hx
   cases hx with
   | ptr _ _ _ _ _ hu =>
     refine Done.pure H hW (key _ _ hv) ?_
     rw [Nat.add_assoc]
     exact .ptr nm st' sz k (off + fd.offset) hu
 . generalize hv : a.eval x = u at hx
   cases hx with
   | kp _ _ b q fn hk h1 hr =>
     refine Done.pure H hW (key _ _ hv) ?_
     rw [Nat.add_assoc]
     exact .kp cs (off + fd.offset) b q fn hk h1 hr
end
end Go.Gv
