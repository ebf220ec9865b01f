/- Texts of this proof, one behind the other. What is proved, and on which conditions, stands ahead of each. -/
import Derived.Test.YthidhohdcjojhaaGreatDoorM6a157be
import Derived.Deep.AppendSrc

set_option linter.unusedVariables false
set_option linter.unusedSimpArgs false
namespace Go.Gv
open Go.RowKit
theorem seg_get' {α : Type} (l vs : List α) (k p : Nat) (h : k <= l.length) :
   (l.take k ++ vs ++ l.drop (k + vs.length))[p]? = if p < k then l[p]? else if p < k + vs.length then vs[p - k]? else l[p]? := by
 have hk : (l.take k).length = k := by simp; omega
 by_cases h1 : p < k
 . rw [if_pos h1, List.append_assoc, List.getElem?_append_left (by omega), List.getElem?_take, if_pos h1]
 . rw [if_neg h1]
   by_cases h2 : p < k + vs.length
   . rw [if_pos h2, List.append_assoc, List.getElem?_append_right (by omega), hk, List.getElem?_append_left (by omega)]
   . rw [if_neg h2, List.getElem?_append_right (by simp; omega), List.getElem?_drop]
     congr 1
     simp
     omega
def RowAt (E : Env) (sz o : Nat) (es : List AV) (cur : Array Value) : Prop :=
 ∀ (i : Nat) (x : AV), es[i]? = some x -> ∀ (j : Nat) (y : AV), x.cells[j]? = some y -> ∃ u, cur[o + i * sz + j]? = some u /\ Rel E y u
theorem RowAt.splice {E : Env} {sz o : Nat} {es ys : List AV} {cur : Array Value} {news : List Value} (hr : RowAt E sz o es cur) (p : Nat) (hp : p <= es.length) (hel : ∀ x ∈ es, ElemOk sz x) (hyel : ∀ y ∈ ys, ElemOk sz y)
   (hn : news.length = ys.length * sz) (hy : ∀ (i : Nat) (y : AV), ys[i]? = some y -> ∀ (j : Nat) (z : AV), y.cells[j]? = some z -> ∃ v, news[i * sz + j]? = some v /\ Rel E z v)
   (hfit : o + p * sz + news.length <= cur.size) :
   (cur.toList.take (o + p * sz) ++ news ++ cur.toList.drop (o + p * sz + news.length)).toArray.size = cur.size /\
   RowAt E sz o (es.take p ++ ys ++ es.drop (p + ys.length)) (cur.toList.take (o + p * sz) ++ news ++ cur.toList.drop (o + p * sz + news.length)).toArray := by
 refine ⟨by simp only [List.size_toArray, List.length_append, List.length_take, List.length_drop, Array.length_toList]; omega, ?_⟩
 intro i x hx j y hyj
 have hjsz : ∀ x, ElemOk sz x -> x.cells[j]? = some y -> j < sz := fun x hx hy => by rw [<- hx.1]; exact (List.getElem?_eq_some_iff.1 hy).1
 rw [seg_get' es ys p i hp] at hx
 rw [List.getElem?_toArray, seg_get' cur.toList news (o + p * sz) _ (by simp only [Array.length_toList]; omega), hn]
 by_cases h1 : i < p
 . rw [if_pos h1] at hx
   have hj := hjsz x (hel x (List.mem_of_getElem? hx)) hyj
   have : (i + 1) * sz <= p * sz := Nat.mul_le_mul_right _ h1
   rw [Nat.add_mul] at this
   rw [if_pos (by omega)]
   simpa using hr i x hx j y hyj
 . rw [if_neg h1] at hx
   have e1 : p * sz <= i * sz := Nat.mul_le_mul_right _ (by omega)
   by_cases h2 : i < p + ys.length
   . rw [if_pos h2] at hx
     have hj := hjsz x (hyel x (List.mem_of_getElem? hx)) hyj
     have e2 : (i + 1) * sz <= (p + ys.length) * sz := Nat.mul_le_mul_right _ h2
     rw [Nat.add_mul, Nat.add_mul] at e2
     rw [if_neg (by omega), if_pos (by omega)]
     obtain ⟨v, hv, hrel⟩ := hy _ x hx j y hyj
     refine ⟨v, ?_, hrel⟩
     rw [<- hv]
     congr 1
     rw [Nat.sub_mul]
     omega
   . rw [if_neg h2] at hx
     have e2 : (p + ys.length) * sz <= i * sz := Nat.mul_le_mul_right _ (by omega)
     rw [Nat.add_mul] at e2
     rw [if_neg (by omega), if_neg (by omega)]
     simpa using hr i x hx j y hyj
def SrcM (E : Env) (w : World) (sz : Nat) (ys : List AV) (u : Value) : Prop :=
 ∃ (a : Option Addr) (c : Nat) (news : List Value), u = .slice a ys.length c /\ news.length = ys.length * sz /\ (∀ y ∈ ys, ElemOk sz y) /\ (∀ v ∈ news, v.oneCell' = true) /\
   ((a = none /\ ys = []) \/ ∃ ad : Addr, a = some ad /\ ∀ (j : Nat) (v : Value), news[j]? = some v -> w.cell? (ad.add j) = some v) /\
   ∀ (i : Nat) (y : AV), ys[i]? = some y -> ∀ (j : Nat) (z : AV), y.cells[j]? = some z -> ∃ v, news[i * sz + j]? = some v /\ Rel E z v
theorem srcM_of {E : Env} {B : Nat} {h : Hp} {w : World} (H : HConc E B h w) {x : AV} {u : Value} (hu : Rel E x u) {sz : Nat} {ys : List AV} (hx : listM h.blk sz x = some ys) :
   SrcM E w sz ys u := by
 have weak : listOf h.blk sz x = some ys -> SrcM E w sz ys u := fun hl => by
   obtain ⟨a, c, news, h1, _, h3, h4, h5, h6, h7⟩ := src_of H hu hl
   exact ⟨a, c, news, h1, h3, h4, h5, h6, fun i y hy j z hz => let ⟨v, hv, hr⟩ := h7 i y hy j z hz; ⟨v, hv, hr.mono E.cl_le⟩⟩
 cases x with
 | nils => exact weak hx
 | lst s xs => exact weak hx
 | acc nm st s xs => exact weak hx
 | sl nm st s off len =>
   simp only [listM] at hx
   split at hx
   . rename_i e
     subst e
     simp only [Option.bind_eq_some_iff] at hx
     obtain ⟨es, hes, hx⟩ := hx
     split at hx
     . rename_i hle
       cases hx
       have hb := getB_some hes
       have hbk := (H.bk nm _ hb).r (getB_pos hes)
       obtain ⟨cur, e, hg, hsz, hr⟩ := hbk.row
       simp only at hg hsz hr
       cases hu with
       | sl _ _ _ _ _ cap a hus hcap hc ha =>
         have hlen : ((es.drop off).take len).length = len := by simp; omega
         by_cases hl0 : len = 0
         . subst hl0
           refine ⟨a, cap, [], by simp, by simp, by simp, by simp, ?_, by simp⟩
           cases a with
           | none => exact .inl ⟨rfl, by simp⟩
           | some ad => exact .inr ⟨ad, rfl, by simp⟩
         . have ea := ha (by omega)
           subst ea
           have hmem : ∀ y ∈ (es.drop off).take len, y ∈ es := fun y hy => List.mem_of_mem_drop (List.mem_of_mem_take hy)
           have hel' : ∀ y ∈ (es.drop off).take len, ElemOk s y := fun y hy => hbk.el y (hmem y hy)
           have hfit : (E.m st).2 + (off + len) * s <= cur.size := by
             have : (off + len) * s <= E.cp st * s := Nat.mul_le_mul_right _ (by have := hbk.len; simp only at this; omega)
             omega
           have hidx : ∀ (i : Nat) (y : AV), ((es.drop off).take len)[i]? = some y -> i < len /\ es[off + i]? = some y := by
             intro i y hy
             have hi : i < len := by have := (List.getElem?_eq_some_iff.1 hy).1; omega
             rw [List.getElem?_take, if_pos hi, List.getElem?_drop] at hy
             exact ⟨hi, hy⟩
           have parts : ∀ k, k < len * s -> k / s < len /\ k % s < s /\ k / s * s + k % s = k := by
             intro k hk
             have hs : 0 < s := by
               rcases Nat.eq_zero_or_pos s with e | e
               . subst e; simp at hk
               . exact e
             exact ⟨Nat.div_lt_of_lt_mul (by rw [Nat.mul_comm]; exact hk), Nat.mod_lt _ hs, by have := Nat.div_add_mod k s; rw [Nat.mul_comm] at this; exact this⟩
           let news : List Value := (cur.toList.drop ((E.m st).2 + off * s)).take (len * s)
           have hnl : news.length = len * s := by
             simp only [news, List.length_take, List.length_drop, Array.length_toList]
             rw [Nat.add_mul] at hfit
             omega
           have hng : ∀ j, j < len * s -> news[j]? = cur[(E.m st).2 + off * s + j]? := by
             intro j hj
             simp only [news, List.getElem?_take, if_pos hj, List.getElem?_drop, Array.getElem?_toList]
           refine ⟨some _, cap, news, by rw [hlen], by rw [hlen]; exact hnl, hel', ?_, .inr ⟨_, rfl, ?_⟩, ?_⟩
           . intro v hv
             obtain ⟨k, hk⟩ := List.getElem?_of_mem hv
             have hkl : k < len * s := by rw [<- hnl]; exact (List.getElem?_eq_some_iff.1 hk).1
             obtain ⟨p1, p2, p3⟩ := parts k hkl
             obtain ⟨y, hy⟩ : ∃ y, ((es.drop off).take len)[k / s]? = some y := ⟨_, List.getElem?_eq_getElem (by rw [hlen]; exact p1)⟩
             have hym := hel' y (List.mem_of_getElem? hy)
             obtain ⟨z, hz⟩ : ∃ z, y.cells[k % s]? = some z := ⟨_, List.getElem?_eq_getElem (by rw [hym.1]; exact p2)⟩
             obtain ⟨v', hv', hrel⟩ := hr (off + k / s) y (hidx _ y hy).2 _ z hz
             rw [hng k hkl] at hk
             rw [show (E.m st).2 + (off + k / s) * s + k % s = (E.m st).2 + off * s + k by rw [Nat.add_mul]; omega, hk] at hv'
             cases hv'
             exact hrel.one (hym.2 z (List.mem_of_getElem? hz))
           . intro j v hv
             have hjl : j < len * s := by rw [<- hnl]; exact (List.getElem?_eq_some_iff.1 hv).1
             rw [Addr.add_mk, cell_of_row w _ _ cur e (0, 0) hg, <- hng j hjl]
             exact hv
           . intro i y hy j z hz
             obtain ⟨hi, hy'⟩ := hidx i y hy
             have hj : j < s := by rw [<- (hel' y (List.mem_of_getElem? hy)).1]; exact (List.getElem?_eq_some_iff.1 hz).1
             obtain ⟨v, hv, hrel⟩ := hr (off + i) y hy' j z hz
             refine ⟨v, ?_, hrel⟩
             rw [hng _ (mul_lt hi hj), <- hv]
             congr 1
             rw [Nat.add_mul]; omega
     . cases hx
   . cases hx
 | _ => simp [listM] at hx
theorem row_window {E : Env} {sz o off len : Nat} {es : List AV} {cur : Array Value} (h : RowAt E sz o es cur) : RowAt E sz (o + off * sz) ((es.drop off).take len) cur := by
 intro i x hx j y hy
 rw [List.getElem?_take] at hx
 split at hx
 . rw [List.getElem?_drop] at hx
   have := h (off + i) x hx j y hy
   rwa [show o + off * sz + i * sz + j = o + (off + i) * sz + j by rw [Nat.add_mul]; omega]
 . cases hx
theorem HConc.reBlk {E : Env} {B : Nat} {h : Hp} {w w' : World} (H : HConc E B h w) {nm0 : Nat} {b0 : Blk} (hb0 : h.blk nm0 = some b0) (nm st sz off c : Nat) (hst : ¬ E.u st) (es : List AV) (cur' : Array Value) (e : TypeId)
   (hsz : sz = b0.sz) (hw' : w' = w.setRow (E.m b0.st).1 cur') (hold : ∃ cur, w.heap[(E.m b0.st).1]? = some (.cells cur e (0, 0)))
   (hel : ∀ x ∈ es, ElemOk sz x) (hcl : es.length <= c) (hfit : (E.m b0.st).2 + off * sz + c * sz <= cur'.size)
   (hr : RowAt E sz ((E.m b0.st).2 + off * sz) es cur') :
   HConc (E.withM st ((E.m b0.st).1, (E.m b0.st).2 + off * sz) c) B ((h.setB nm0 none).setB nm (some ⟨st, sz, es⟩)) w' := by
 obtain ⟨cur, hg⟩ := hold
 have hbk := (H.bk nm0 b0 hb0).rc hg
 have hs0 : sz ≠ 0 := by rw [hsz]; exact hbk.1
 replace hbk := hbk.2
 have hE := Env.le_withM hst ((E.m b0.st).1, (E.m b0.st).2 + off * sz) c
 have em : (E.withM st ((E.m b0.st).1, (E.m b0.st).2 + off * sz) c).m st = ((E.m b0.st).1, (E.m b0.st).2 + off * sz) := upd_same _ _ _
 have ec : (E.withM st ((E.m b0.st).1, (E.m b0.st).2 + off * sz) c).cp st = c := upd_same _ _ _
 have H1 : HConc E B (h.setB nm0 none) w' := by
   subst hw'
   refine (H.dropB nm0).change ?_ ?_ ?_
   . intro b o v hk
     have hne : b ≠ (E.m b0.st).1 := fun q => by rw [q, hbk.noK o] at hk; cases hk
     rw [cell_setRow_other w _ _ _ hne]
     exact H.K b o v hk
   . intro n b hb'
     have : n ≠ nm0 /\ h.blk n = some b := by
       simp only [Hp.setB, upd] at hb'
       split at hb'
       . simp at hb'
       . rename_i hne; exact ⟨hne, hb'⟩
     exact setRow_other w _ _ _ (H.bb n nm0 b _ this.1 this.2 hb0)
   . intro n t' g ht' hg'
     exact setRow_other w _ _ _ (fun q => H.bt nm0 n _ t' hb0 ht' (by rw [hg', q]))
 have H2 := H1.env hE H1.K (fun n b x j => (H1.bk n b x).noK j) (fun _ _ _ _ _ _ => rfl)
 refine (H2.dropB nm).putB ⟨st, sz, es⟩ (.inl rfl) (.row hs0 ⟨by rw [em]; exact hbk.base, hel, by rw [ec]; exact hcl, ?_, by rw [em]; exact hbk.noK⟩) ?_ ?_
 . rw [em, ec]
   refine ⟨cur', e, by rw [hw']; exact setRow_heap w _ cur _ e _ hg, hfit, fun i x hx j y hy => ?_⟩
   obtain ⟨u, hu, hrel⟩ := hr i x hx j y hy
   exact ⟨u, hu, hrel.mono hE⟩
 . intro n b' hn hb'
   have : n ≠ nm0 /\ h.blk n = some b' := by
     simp only [Hp.setB, upd] at hb'
     split at hb'
     . simp at hb'
     . rename_i hne; exact ⟨hne, hb'⟩
   rw [hE.m _ (H.bu n b' this.2), em]
   exact H.bb n nm0 b' b0 this.1 this.2 hb0
 . intro n t ht
   rw [hE.hd _ (H.tu n t ht), em]
   exact H.bt nm0 n b0 t hb0 ht
theorem hp_app_two (h : Hp) (v : AV) (n0 : Option Nat) (nm : Nat) (b : Blk) :
   h.app { v := v, wb := (match n0 with | some n => [(n, none)] | none => []) ++ [(nm, some b)] } = (match n0 with | some n => h.setB n none | none => h).setB nm (some b) := by
 cases n0 <;> rfl
theorem appw_done {P : Program} {B : Nat} {W : World} {E : Env} {h : Hp} {w : World} (H : HConc E B h w) (hW : Below B W w) (hB : B <= w.heap.size) (nm st sz : Nat) (t ty e : TypeId) (i : TypeInfo) (z : Value)
   (hst : ¬ E.u st) (ht : P.underlying t = some (.slice e)) (hi : P.info? e = some i) (hz : i.zero = some z) (hsz : i.size = sz) (hzs : z.cells.size = sz) (h0 : 0 < sz) (hb1 : 0 < i.bytes)
   (s x : AV) (vs vx : Value) (hs : Rel E s vs) (hx : Rel E x vx) (b : List AV × Option Nat) (hb : appwBase h.blk sz s = some b) (ys : List AV) (hys : listM h.blk sz x = some ys)
   (hne : b.2 = none -> ys ≠ []) (hby : (b.1.length + ys.length) * i.bytes <= 140737488355328) :
   ∃ v' w' E', (Builtin.append_ #[t, t] ty #[vs, vx]).run P w = .ok v' w' /\ E.le E' /\ (∀ x, E'.u x -> E.u x \/ x = st) /\ (∀ b o, b < B -> E'.K b o = E.K b o) /\
     HConc E' B (h.app { v := .sl nm st sz 0 (b.1.length + ys.length), wb := (match b.2 with | some n => [(n, none)] | none => []) ++ [(nm, some ⟨st, sz, b.1 ++ ys⟩)] }) w' /\ Below B W w' /\ Rel E' (.sl nm st sz 0 (b.1.length + ys.length)) v' := by
 subst hsz
 obtain ⟨a, c, news, rfl, hnl, hyel, hn1, hspot, hyr⟩ := srcM_of H hx hys
 have hsrc : Go.Src P i.size t (.slice a ys.length c) ys.length news w := by
   rcases hspot with ⟨rfl, rfl⟩ | ⟨ad, rfl, hc⟩
   . have : news = [] := List.eq_nil_of_length_eq_zero (by simpa using hnl)
     subst this
     exact Go.Src.ofNil w ht c
   . exact Go.Src.ofSlice w ht ad ys.length c news hnl hc hn1
 have hby63 : b.1.length + ys.length <= 140737488355328 := Nat.le_trans (Nat.le_mul_of_pos_right _ hb1) hby
 have grow : ∀ (h1 : Hp) (base : Option Addr) (cap : Nat) (xs : List AV) (olds : List Value), HConc E B h1 w -> xs = b.1 -> vs = .slice base xs.length cap -> olds.length = xs.length * i.size -> (∀ x ∈ xs, ElemOk i.size x) ->
     (∀ (k : Nat) (x : AV), xs[k]? = some x -> ∀ (j : Nat) (y : AV), x.cells[j]? = some y -> ∃ u, olds[k * i.size + j]? = some u /\ Rel E y u) ->
     (Builtin.firstCells i.size xs.length (.slice base xs.length cap)).run P w.drew = .ok olds.toArray w.drew -> cap < xs.length + ys.length ->
     ∃ v' w' E', (Builtin.append_ #[t, t] ty #[vs, .slice a ys.length c]).run P w = .ok v' w' /\ E.le E' /\ (∀ x, E'.u x -> E.u x \/ x = st) /\ (∀ b o, b < B -> E'.K b o = E.K b o) /\
       HConc E' B (h1.setB nm (some ⟨st, i.size, b.1 ++ ys⟩)) w' /\ Below B W w' /\ Rel E' (.sl nm st i.size 0 (b.1.length + ys.length)) v' := by
   intro h1 base cap xs olds H1 hxs hvs hol hxel hor hold hcap
   subst hvs
   rw [<- hxs] at hby63 hby ⊢
   have hrun := run_append_grow_src (P := P) w t t ty e i z ht hi hz base xs.length cap olds hold (.slice a ys.length c) ys.length news hsrc hcap (by omega) (growslice_fits (by omega) hby)
   have hge := grownCap_ge w (xs.length + ys.length) cap e
   have hgm : grownCap w (xs.length + ys.length) cap e <= maxLen := grownCap_le_maxLen w (xs.length + ys.length) cap e (by simp only [maxLen]; omega)
   have Hd : HConc E B h1 w.drew := H1.change H1.K (fun _ _ _ => rfl) (fun _ _ _ _ _ => rfl)
   have hsize : ((olds ++ news).toArray ++ Builtin.zeroCells z.cells (grownCap w (xs.length + ys.length) cap e - (xs.length + ys.length))).size = grownCap w (xs.length + ys.length) cap e * i.size := by
     simp only [Array.size_append, List.size_toArray, List.length_append, size_zeroCells, hzs, hol, hnl, <- Nat.add_mul]
     congr 1; omega
   refine ⟨_, _, E.withM st (w.heap.size, 0) (grownCap w (xs.length + ys.length) cap e), hrun, Env.le_withM hst _ _, fun s hs => hs.elim .inr .inl, fun _ _ _ => rfl, ?_, (hW.drew).alloc hB _, ?_⟩
   . refine Hd.newRow hB nm st i.size (by omega) hst (xs ++ ys) _ e (fun x hx => (List.mem_append.1 hx).elim (hxel x) (hyel x)) _ (by rw [List.length_append]; exact hge) (by rw [hsize]; exact Nat.le_refl _) ?_
     intro k x hx j y hy
     have key : ∃ u, (olds ++ news)[k * i.size + j]? = some u /\ Rel E y u := by
       by_cases hk : k < xs.length
       . rw [List.getElem?_append_left hk] at hx
         obtain ⟨u, hu, hrel⟩ := hor k x hx j y hy
         exact ⟨u, by rw [List.getElem?_append_left (List.getElem?_eq_some_iff.1 hu).1]; exact hu, hrel⟩
       . rw [List.getElem?_append_right (by omega)] at hx
         obtain ⟨u, hu, hrel⟩ := hyr _ x hx j y hy
         have e1 : k * i.size = xs.length * i.size + (k - xs.length) * i.size := by rw [<- Nat.add_mul]; congr 1; omega
         refine ⟨u, ?_, hrel⟩
         rw [List.getElem?_append_right (by omega), hol, e1, show xs.length * i.size + (k - xs.length) * i.size + j - xs.length * i.size = (k - xs.length) * i.size + j by omega]
         exact hu
     obtain ⟨u, hu, hrel⟩ := key
     refine ⟨u, ?_, hrel⟩
     have hlt : k * i.size + j < (olds ++ news).toArray.size := by simpa using (List.getElem?_eq_some_iff.1 hu).1
     rw [Array.getElem?_append_left hlt]
     simpa using hu
   . have em : (E.withM st (w.heap.size, 0) (grownCap w (xs.length + ys.length) cap e)).m st = (w.heap.size, 0) := upd_same _ _ _
     have ec : (E.withM st (w.heap.size, 0) (grownCap w (xs.length + ys.length) cap e)).cp st = grownCap w (xs.length + ys.length) cap e := upd_same _ _ _
     refine .sl nm st i.size 0 _ _ _ (.inl rfl) hge (by rw [ec]; omega) (fun _ => ?_)
     rw [em]; simp
 rw [hp_app_two]
 cases s with
 | nils =>
   have hb' : b = ([], none) := by simpa [appwBase] using hb.symm
   subst hb'
   have hyne : ys ≠ [] := hne rfl
   have hpos : 0 < ys.length := List.length_pos_iff.2 hyne
   exact grow h none 0 [] [] H rfl (by rw [hs.nils_inv]; rfl) (by simp) (by simp) (by simp) (by exact run_firstCells_none w.drew i.size 0 0 0) (by simp; omega)
 | sl nm0 st0 s0 off len =>
   simp only [appwBase] at hb
   split at hb
   . rename_i es0
     subst es0
     simp only [Option.bind_eq_some_iff] at hb
     obtain ⟨es, hes, hb⟩ := hb
     split at hb
     . rename_i hle
       cases hb
       have hbs := getB_some hes
       have hbk := (H.bk nm0 _ hbs).r (getB_pos hes)
       obtain ⟨cur, e', hg, hszr, hr⟩ := hbk.row
       simp only at hg hszr hr
       have hcpl : es.length <= E.cp st0 := hbk.len
       have hwl : ((es.drop off).take len).length = len := by simp; omega
       have hwel : ∀ x ∈ (es.drop off).take len, ElemOk i.size x := fun x hx => hbk.el x (List.mem_of_mem_drop (List.mem_of_mem_take hx))
       have hrow0 : RowAt E i.size (E.m st0).2 es cur := hr
       have hwin := row_window (off := off) (len := len) hrow0
       cases hs with
       | sl _ _ _ _ _ cap ad hu hcap hc ha =>
         have hcapfit : (E.m st0).2 + off * i.size + cap * i.size <= cur.size := by
           have : (off + cap) * i.size <= E.cp st0 * i.size := Nat.mul_le_mul_right _ hc
           rw [Nat.add_mul] at this; omega
         by_cases hroom : len + ys.length <= cap
         ·
           have hfit : (E.m st0).2 + off * i.size + len * i.size + news.length <= cur.size := by
             have : (len + ys.length) * i.size <= cap * i.size := Nat.mul_le_mul_right _ hroom
             rw [Nat.add_mul] at this; omega
           obtain ⟨q1, q2⟩ := hwin.splice len (by omega) hwel hyel hnl hyr hfit
           have t1 : ((es.drop off).take len).take len = (es.drop off).take len := List.take_of_length_le (by omega)
           have t2 : ((es.drop off).take len).drop (len + ys.length) = [] := List.drop_of_length_le (by omega)
           rw [t1, t2, List.append_nil] at q2
           have hrun : (Builtin.append_ #[t, t] ty #[.slice ad len cap, .slice a ys.length c]).run P w =
               .ok (.slice ad (len + ys.length) cap) (w.setRow (E.m st0).1 (cur.toList.take ((E.m st0).2 + off * i.size + len * i.size) ++ news ++ cur.toList.drop ((E.m st0).2 + off * i.size + len * i.size + news.length)).toArray) := by
             by_cases hc0 : cap = 0
             . have hy0 : ys = [] := List.eq_nil_of_length_eq_zero (by omega)
               have hn0 : news = [] := List.eq_nil_of_length_eq_zero (by rw [hnl, hy0]; simp)
               have hl0 : len = 0 := by omega
               have hself : w.setRow (E.m st0).1 (cur.toList.take ((E.m st0).2 + off * i.size + len * i.size) ++ news ++ cur.toList.drop ((E.m st0).2 + off * i.size + len * i.size + news.length)).toArray = w := by
                 rw [hn0]
                 simp only [List.append_nil, List.length_nil, Nat.add_zero, List.take_append_drop, Array.toArray_toList]
                 exact setRow_self w _ cur e' (0, 0) hg
               rw [hself]
               subst hc0 hl0 hy0 hn0
               cases ad <;> cases a <;> simp [Builtin.append_, run_underlying ht, sizeOf, typeInfo, hi, Builtin.lenOf, Builtin.firstCells, loadCells, loadCellsFrom, storeCells]
             . rw [ha (by omega)]
               have hst := run_storeCells_at P (E.m st0).1 ((E.m st0).2 + off * i.size + len * i.size) e' news 0 cur w hg (by simpa using hfit) hn1
               simp only [Nat.add_zero] at hst
               simp [Builtin.append_, run_underlying ht, sizeOf, typeInfo, hi, hsrc.len, hroom, hsrc.cells, Addr.add_lit, hst]
           have H' := H.reBlk hbs nm st i.size off cap hst ((es.drop off).take len ++ ys) _ e' rfl rfl ⟨cur, hg⟩ (fun x hx => (List.mem_append.1 hx).elim (hwel x) (hyel x)) (by rw [List.length_append, hwl]; exact hroom)
             (by rw [q1]; exact hcapfit) q2
           refine ⟨_, _, _, hrun, Env.le_withM hst _ _, fun s hs => hs.elim .inr .inl, fun _ _ _ => rfl, H', ?_, ?_⟩
           . refine hW.trans ⟨rfl, rfl, rfl, by simp, fun k hk => setRow_other w _ _ _ (fun q => ?_)⟩
             have := hbk.base
             simp only at this
             omega
           . have em : (E.withM st ((E.m st0).1, (E.m st0).2 + off * i.size) cap).m st = ((E.m st0).1, (E.m st0).2 + off * i.size) := upd_same _ _ _
             have ec : (E.withM st ((E.m st0).1, (E.m st0).2 + off * i.size) cap).cp st = cap := upd_same _ _ _
             rw [hwl]
             refine .sl nm st i.size 0 _ cap ad (.inl rfl) hroom (by rw [ec]; omega) (fun hp => ?_)
             rw [em, ha hp]; simp
         ·
           have hol : ((cur.toList.drop ((E.m st0).2 + off * i.size)).take (len * i.size)).length = len * i.size := by
             have : len * i.size <= cap * i.size := Nat.mul_le_mul_right _ hcap
             simp only [List.length_take, List.length_drop, Array.length_toList]
             omega
           have hog : ∀ j, j < len * i.size -> ((cur.toList.drop ((E.m st0).2 + off * i.size)).take (len * i.size))[j]? = cur[(E.m st0).2 + off * i.size + j]? := by
             intro j hj
             simp only [List.getElem?_take, if_pos hj, List.getElem?_drop, Array.getElem?_toList]
           have hold : (Builtin.firstCells i.size len (.slice ad len cap)).run P w.drew = .ok ((cur.toList.drop ((E.m st0).2 + off * i.size)).take (len * i.size)).toArray w.drew := by
             by_cases hc0 : cap = 0
             . have hl0 : len = 0 := by omega
               subst hl0
               simp only [Nat.zero_mul, List.take_zero]
               cases ad <;> simp [Builtin.firstCells, loadCells, loadCellsFrom]
             . rw [ha (by omega)]
               refine run_firstCells_some w.drew i.size len _ len cap _ hol ?_
               intro j v hv
               have hjl : j < len * i.size := by rw [<- hol]; exact (List.getElem?_eq_some_iff.1 hv).1
               rw [hog j hjl] at hv
               show w.cell? _ = _
               rw [Addr.add_mk, cell_of_row w _ _ cur e' (0, 0) hg]
               exact hv
           refine grow (h.setB nm0 none) ad cap ((es.drop off).take len) ((cur.toList.drop ((E.m st0).2 + off * i.size)).take (len * i.size)) (H.dropB nm0) rfl (by rw [hwl]) (by rw [hwl]; exact hol) hwel ?_ (by rw [hwl]; exact hold) (by rw [hwl]; omega)
           intro k x hx j y hy
           obtain ⟨u, hu, hrel⟩ := hwin k x hx j y hy
           have hk : k < len := by have := (List.getElem?_eq_some_iff.1 hx).1; omega
           have hj : j < i.size := by rw [<- (hwel x (List.mem_of_getElem? hx)).1]; exact (List.getElem?_eq_some_iff.1 hy).1
           refine ⟨u, ?_, hrel⟩
           rw [hog _ (mul_lt hk hj), <- hu]
           congr 1; omega
     . cases hb
   . cases hb
 | _ => simp [appwBase] at hb
end Go.Gv

namespace Go.Gv
open Go.RowKit
theorem HConc.inBlk {E : Env} {B : Nat} {h : Hp} {w : World} (H : HConc E B h w) {nm : Nat} {b : Blk} (hb : h.blk nm = some b) (es : List AV) (cur cur' : Array Value) (e : TypeId)
   (hg : w.heap[(E.m b.st).1]? = some (.cells cur e (0, 0))) (hel : ∀ x ∈ es, ElemOk b.sz x) (hlen : es.length = b.es.length) (hsz : cur'.size = cur.size) (hr : RowAt E b.sz (E.m b.st).2 es cur') :
   HConc E B (h.setB nm (some ⟨b.st, b.sz, es⟩)) (w.setRow (E.m b.st).1 cur') := by
 obtain ⟨hs0, hbk⟩ := (H.bk nm b hb).rc hg
 have hbu := H.bu nm b hb
 have H1 : HConc E B (h.setB nm none) (w.setRow (E.m b.st).1 cur') := by
   refine (H.dropB nm).change ?_ ?_ ?_
   . intro b' o v hk
     have hne : b' ≠ (E.m b.st).1 := fun q => by rw [q, hbk.noK o] at hk; cases hk
     rw [cell_setRow_other w _ _ _ hne]
     exact H.K b' o v hk
   . intro n b' hb'
     have : n ≠ nm /\ h.blk n = some b' := by
       simp only [Hp.setB, upd] at hb'
       split at hb'
       . simp at hb'
       . rename_i hne; exact ⟨hne, hb'⟩
     exact setRow_other w _ _ _ (H.bb n nm b' _ this.1 this.2 hb)
   . intro n t' g ht' hg'
     exact setRow_other w _ _ _ (fun q => H.bt nm n _ t' hb ht' (by rw [hg', q]))
 refine H1.putB ⟨b.st, b.sz, es⟩ hbu (.row hs0 ⟨hbk.base, hel, by rw [hlen]; exact hbk.len, ?_, hbk.noK⟩) (fun n b' hn hb' => by have := H.bb n nm b' _ hn hb' hb; exact this) (fun n t' ht' => by have := H.bt nm n _ t' hb ht'; exact this)
 obtain ⟨cur0, e0, hg0, hs0, _⟩ := hbk.row
 rw [hg] at hg0
 cases hg0
 exact ⟨cur', e, setRow_heap w _ cur _ e _ hg, by rw [hsz]; exact hs0, hr⟩
theorem Below.row {B : Nat} {W w : World} (hW : Below B W w) {g : Nat} (hg : B <= g) (cur' : Array Value) : Below B W (w.setRow g cur') :=
 hW.trans ⟨rfl, rfl, rfl, by simp, fun k hk => setRow_other w _ _ _ (fun q => by omega)⟩
section
variable {P : Program} {B : Nat} {W : World} {E : Env} {h : Hp} {w : World} {a : Act} {f : Nat -> AV} {n nm st : Nat}
theorem cpy_done (H : HConc E B h w) (hW : Below B W w) (o : Oper) (x y : Operand) (t t' e e' : TypeId) (ho : o.op = .call { callee := .builtin .copy, args := #[x, y], argTypes := #[t, t'] }) (i : TypeInfo)
   (ht : P.underlying t = some (.slice e)) (hi : P.info? e = some i) (X' Y' : X) (hx : Rel E (X'.ev f) (a.eval x)) (hy : Rel E (Y'.ev f) (a.eval y)) (ef : Eff)
   (hex : ex f h.blk h.tok st (.cpy i.size X' Y') = some ef) :
   Done B W E st ((execOp a.eval o).run P w) ef h := by
 have fin : ∀ (v : Value) (w' : World), (Builtin.copy_ #[t, t'] o.type #[a.eval x, a.eval y]).run P w = .ok v w' -> (execOp a.eval o).run P w = .ok (.value v) w' := by
   intro v w' hrun
   simp [execOp, ho, resolve, invoke, builtin, hrun]
 simp only [ex] at hex
 generalize X'.ev f = X at hx hex
 generalize Y'.ev f = Y at hy hex
 cases X with
 | nils =>
   simp only [Option.map_eq_some_iff] at hex
   obtain ⟨ys, hys, rfl⟩ := hex
   obtain ⟨ad, c, news, hu, _⟩ := srcM_of H hy hys
   refine Done.pure H hW (v := goInt 0) (fin _ _ ?_) (.int _ _)
   rw [hx.nils_inv, hu]
   cases ad <;> simp [Builtin.copy_, run_underlying ht, sizeOf, typeInfo, hi, Builtin.lenOf, Builtin.firstCells, loadCells, loadCellsFrom]
 | sl nm s sz' off len =>
   simp only at hex
   split at hex
   . rename_i es'
     subst es'
     simp only [Option.bind_eq_some_iff] at hex
     obtain ⟨es, hes, ys, hys, hex⟩ := hex
     split at hex
     . rename_i hle
       cases hex
       have hbs := getB_some hes
       have hbk := (H.bk nm _ hbs).r (getB_pos hes)
       obtain ⟨cur, e0, hg, hszr, hr⟩ := hbk.row
       simp only at hg hszr hr
       have hcpl : es.length <= E.cp s := hbk.len
       obtain ⟨ad', c', news, hu, hnl, hyel, hn1, hspot, hyr⟩ := srcM_of H hy hys
       generalize hk : min ys.length len = k
       have hky : k <= ys.length := by omega
       have hkl : k <= len := by omega
       have hkn : k * i.size <= news.length := by rw [hnl]; exact Nat.mul_le_mul_right _ hky
       have hnl' : (news.take (k * i.size)).length = (ys.take k).length * i.size := by simp only [List.length_take]; rw [Nat.min_eq_left hky, Nat.min_eq_left hkn]
       have hn1' : ∀ v ∈ news.take (k * i.size), v.oneCell' = true := fun v hv => hn1 v (List.mem_of_mem_take hv)
       have hyel' : ∀ z ∈ ys.take k, ElemOk i.size z := fun z hz => hyel z (List.mem_of_mem_take hz)
       have hyr' : ∀ (m : Nat) (z : AV), (ys.take k)[m]? = some z -> ∀ (j : Nat) (q : AV), z.cells[j]? = some q -> ∃ v, (news.take (k * i.size))[m * i.size + j]? = some v /\ Rel E q v := by
         intro m z hz j q hq
         have hm : m < k := by have := (List.getElem?_eq_some_iff.1 hz).1; simp at this; omega
         have hj : j < i.size := by rw [<- (hyel' z (List.mem_of_getElem? hz)).1]; exact (List.getElem?_eq_some_iff.1 hq).1
         rw [List.getElem?_take, if_pos hm] at hz
         obtain ⟨v, hv, hrel⟩ := hyr m z hz j q hq
         exact ⟨v, by rw [List.getElem?_take, if_pos (mul_lt hm hj)]; exact hv, hrel⟩
       have hfit : (E.m s).2 + off * i.size + (news.take (k * i.size)).length <= cur.size := by
         have : (off + k) * i.size <= E.cp s * i.size := Nat.mul_le_mul_right _ (by omega)
         rw [Nat.add_mul] at this
         rw [List.length_take, Nat.min_eq_left hkn]; omega
       have hrow0 : RowAt E i.size (E.m s).2 es cur := hr
       obtain ⟨q1, q2⟩ := hrow0.splice off (by omega) hbk.el hyel' hnl' hyr' hfit
       have hlen2 : (ys.take k).length = k := by simp; omega
       rw [hlen2] at q2
       have H' := H.inBlk hbs (es.take off ++ ys.take k ++ es.drop (off + k)) cur _ e0 hg (fun z hz => by
           simp only [List.mem_append] at hz
           rcases hz with (hz | hz) | hz
           . exact hbk.el z (List.mem_of_mem_take hz)
           . exact hyel' z hz
           . exact hbk.el z (List.mem_of_mem_drop hz)) (by simp only [List.length_append, List.length_take, List.length_drop]; omega) q1 q2
       generalize hX : a.eval x = vx at hx
       cases hx with
       | sl _ _ _ _ _ cap ad hus hcap hc ha =>
         have hcells : (Builtin.firstCells i.size k (a.eval y)).run P w = .ok (news.take (k * i.size)).toArray w := by
           rw [hu]
           rcases hspot with ⟨rfl, hy0⟩ | ⟨ad2, rfl, hcell⟩
           . have hk0 : k = 0 := by rw [hy0] at hky; simpa using hky
             subst hk0
             simp [Builtin.firstCells]
           . refine run_firstCells_some w i.size k ad2 _ c' _ (by rw [hnl', hlen2]) (fun j v hv => hcell j v ?_)
             rw [List.getElem?_take] at hv
             split at hv
             . exact hv
             . cases hv
         have hlo : (Builtin.lenOf (a.eval y)).run P w = .ok ys.length w := by rw [hu]; rfl
         have hmin : Nat.min ys.length len = k := hk
         have hrun : (Builtin.copy_ #[t, t'] o.type #[.slice ad len cap, a.eval y]).run P w = .ok (goInt k) (w.setRow (E.m s).1 (cur.toList.take ((E.m s).2 + off * i.size) ++ news.take (k * i.size) ++ cur.toList.drop ((E.m s).2 + off * i.size + (news.take (k * i.size)).length)).toArray) := by
           by_cases hk0 : k = 0
           . subst hk0
             have hself : w.setRow (E.m s).1 (cur.toList.take ((E.m s).2 + off * i.size) ++ news.take (0 * i.size) ++ cur.toList.drop ((E.m s).2 + off * i.size + (news.take (0 * i.size)).length)).toArray = w := by
               simp only [Nat.zero_mul, List.take_zero, List.append_nil, List.length_nil, Nat.add_zero, List.take_append_drop, Array.toArray_toList]
               exact setRow_self w _ cur e0 (0, 0) hg
             rw [hself]
             have hcells0 : (Builtin.firstCells i.size 0 (a.eval y)).run P w = .ok #[] w := by simpa using hcells
             cases ad <;> simp [Builtin.copy_, run_underlying ht, sizeOf, typeInfo, hi, hlo, hmin, hcells0, storeCells]
           . rw [ha (by omega)]
             have hst := run_storeCells_at P (E.m s).1 ((E.m s).2 + off * i.size) e0 (news.take (k * i.size)) 0 cur w hg (by simpa using hfit) hn1'
             simp only [Nat.add_zero] at hst
             simp [Builtin.copy_, run_underlying ht, sizeOf, typeInfo, hi, hlo, hmin, hcells, hst]
         refine ⟨goInt k, _, E, .inl (fin _ _ (by rw [hX]; exact hrun)), .refl E, fun _ q => .inl q, fun _ _ _ => rfl, H', Below.row hW hbk.base _, .int _ _⟩
     . cases hex
   . cases hex
 | _ => cases hex
theorem shift_done (H : HConc E B h w) (hW : Below B W w) (o : Oper) (l : Bool) (t ty : TypeId) (x y : Operand) (ho : o.op = .binOp (if l = true then .shl else .shr) t x y ty) (k k' : IntKind) (p q : Int) (hx : Rel E (.int k p) (a.eval x)) (hy : Rel E (.int k' q) (a.eval y)) (hq : ¬ q < 0) :
   Done B W E st ((execOp a.eval o).run P w) { v := .int k (shiftI l k p q) } h := by
 unfold shiftI
 have ex := hx.int_inv
 have ey := hy.int_inv
 have hg : ∀ x y : Operand, (eqGuard (if l = true then .shl else .shr) t x y (.int k p) (.int k' q)).run P w = .ok () w := by
   intro x y; cases l <;> simp [eqGuard]
 refine Done.pure H hW (v := .int k (if l = true then k.wrap (p * 2 ^ (min q.toNat k.bits)) else p.fdiv (2 ^ (min q.toNat k.bits)))) ?_ (.int _ _)
 have hg' := hg x y
 cases l
 . simp only [Bool.false_eq_true, if_false] at ho hg' ⊢
   simp [execOp, ho, ex, ey, hg', binOp, Op.shift, hq]
 . simp only [if_true] at ho hg' ⊢
   simp [execOp, ho, ex, ey, hg', binOp, Op.shift, hq]
theorem nilck_done (H : HConc E B h w) (hW : Below B W w) (o : Oper) (x : Operand) (ho : o.op = .nilCheck x) (v : AV) (hv : Rel E v (a.eval x)) (hp : (∃ nm s sz i o, v = .ptr nm s sz i o) \/ ∃ cs o, v = .kp cs o) :
   Done B W E st ((execOp a.eval o).run P w) { v := v } h := by
 refine Done.pure H hW (v := a.eval x) ?_ hv
 have : ∃ ad, a.eval x = .pointer (some ad) := by
   generalize a.eval x = u at hv
   rcases hp with ⟨_, _, _, _, _, rfl⟩ | ⟨_, _, rfl⟩ <;> cases hv <;> exact ⟨_, rfl⟩
 obtain ⟨ad, he⟩ := this
 simp [execOp, ho, he]
theorem nilOp_spec {P : Program} {t : TypeId} {y : Operand} {kd : Nat} (h : nilOp P t y = some kd) :
   (kd = 0 /\ y = .const (.slice none 0 0) /\ ∃ e, P.underlying t = some (.slice e)) \/ (kd = 1 /\ y = .const (.pointer none) /\ ∃ e, P.underlying t = some (.pointer e)) \/ (kd = 2 /\ y = .const .nilFunc /\ ∃ p q r, P.underlying t = some (.func p q r)) := by
 unfold nilOp at h
 split at h
 . split at h
   . rename_i e he; cases h; exact .inl ⟨rfl, rfl, e, he⟩
   . cases h
 . split at h
   . rename_i e he; cases h; exact .inr (.inl ⟨rfl, rfl, e, he⟩)
   . cases h
 . split at h
   . rename_i p q r he; cases h; exact .inr (.inr ⟨rfl, rfl, p, q, r, he⟩)
   . cases h
 . cases h
theorem nil_slice (d : Nat) (t e : TypeId) (ht : P.underlying t = some (.slice e)) (ad : Option Addr) (l c : Nat) : (Op.equalIn (d + 1) t (.slice ad l c) (.slice none 0 0)).run P w = .ok ad.isNone w := by
 cases ad <;> simp [Op.equalIn, run_underlying ht]
theorem nil_ptr (d : Nat) (t e : TypeId) (ht : P.underlying t = some (.pointer e)) (ad : Option Addr) : (Op.equalIn (d + 1) t (.pointer ad) (.pointer none)).run P w = .ok ad.isNone w := by
 cases ad <;> simp [Op.equalIn, run_underlying ht]
theorem nil_fn (d : Nat) (t : TypeId) (p q r) (ht : P.underlying t = some (.func p q r)) : (Op.equalIn (d + 1) t .nilFunc .nilFunc).run P w = .ok true w := by
 simp [Op.equalIn, run_underlying ht]
theorem nil_fn' (d : Nat) (t : TypeId) (p q r) (ht : P.underlying t = some (.func p q r)) (x y z) : (Op.equalIn (d + 1) t (.func x y z) .nilFunc).run P w = .ok false w := by
 simp [Op.equalIn, run_underlying ht]
theorem nilq_done (H : HConc E B h w) (hW : Below B W w) (o : Oper) (op : BinOp) (neg : Bool) (t ty : TypeId) (x y : Operand) (ho : o.op = .binOp op t x y ty) (hop : op = if neg = true then .neq else .eql)
   (v : AV) (hx : Rel E v (a.eval x)) (kd : Nat) (b : Bool) (hb : nilA kd v = some b) (hy : nilOp P t y = some kd) :
   Done B W E st ((execOp a.eval o).run P w) { v := .bool (if neg = true then !b else b) } h := by
 have main : ∀ (u z : Value), a.eval x = u -> a.eval y = z -> (Op.equal t u z).run P w = .ok b w -> (∀ x' y' : Operand, (eqGuard op t x' y' u z).run P w = .ok () w) ->
     ((∀ s : Bool, (binOp (if s = true then .neq else .eql) t u z).run P w = ((do let q <- Op.equal t u z; pure (Value.bool (if s = true then !q else q))) : Sem Value).run P w)) ->
     Done B W E st ((execOp a.eval o).run P w) { v := .bool (if neg = true then !b else b) } h := by
   intro u z hu hz he hg hbin
   refine Done.pure H hW (v := .bool (if neg = true then !b else b)) ?_ (.bool _)
   have hb2 := hbin neg
   rw [<- hop] at hb2
   simp only [execOp, ho, hu, hz, Sem.run_bind, hg, Result.andThen_ok, hb2, he, Sem.run_pure]
 rcases nilOp_spec hy with ⟨rfl, rfl, e, ht⟩ | ⟨rfl, rfl, e, ht⟩ | ⟨rfl, rfl, p, q, r, ht⟩
 . have hk : ∃ ad l c, a.eval x = .slice ad l c /\ ad.isNone = b := by
     generalize a.eval x = u at hx
     cases v <;> simp only [nilA] at hb <;> (try (cases hb; done))
     case nils => cases hb; exact ⟨none, 0, 0, hx.nils_inv, rfl⟩
     case lst s xs =>
       cases xs with
       | nil => cases hb
       | cons q xs => cases hb; cases hx; exact ⟨_, _, _, rfl, rfl⟩
     case acc nm st s xs =>
       cases xs with
       | nil => cases hb
       | cons q xs =>
         cases hb
         cases hx with
         | acc _ _ _ _ _ _ _ hl => cases hl; exact ⟨_, _, _, rfl, rfl⟩
     case sl nm st s off len =>
       split at hb
       . cases hb
         cases hx with
         | sl _ _ _ _ _ cap ad hu hcap hc ha => exact ⟨_, _, _, rfl, by rw [ha (by omega)]; rfl⟩
       . cases hb
   obtain ⟨ad, l, c, e1, e3⟩ := hk
   refine main _ _ e1 rfl ?_ ?_ ?_
   . have := nil_slice (P := P) (w := w) 9999 t e ht ad l c
     rw [e3] at this; exact this
   . intro x' y'; cases op <;> simp [eqGuard]
   . intro s; cases s <;> simp [binOp]
 . have hk : ∃ ad, a.eval x = .pointer ad /\ ad.isNone = b := by
     generalize a.eval x = u at hx
     cases v <;> simp only [nilA] at hb <;> (try (cases hb; done)) <;> cases hb <;> cases hx <;> exact ⟨_, rfl, rfl⟩
   obtain ⟨ad, e1, e3⟩ := hk
   refine main _ _ e1 rfl ?_ ?_ ?_
   . have := nil_ptr (P := P) (w := w) 9999 t e ht ad
     rw [e3] at this; exact this
   . intro x' y'; cases op <;> simp [eqGuard]
   . intro s; cases s <;> simp [binOp]
 . have hk : (a.eval x = .nilFunc /\ b = true) \/ ((∃ p q r, a.eval x = .func p q r) /\ b = false) := by
     generalize a.eval x = u at hx
     cases v <;> simp only [nilA] at hb <;> (try (cases hb; done)) <;> cases hb <;> cases hx
     . exact .inl ⟨rfl, rfl⟩
     . exact .inr ⟨⟨_, _, _, rfl⟩, rfl⟩
   rcases hk with ⟨e1, e3⟩ | ⟨⟨p', q', r', e1⟩, e3⟩
   . refine main _ _ e1 rfl ?_ ?_ ?_
     . rw [e3]; exact nil_fn (P := P) (w := w) 9999 t p q r ht
     . intro x' y'; cases op <;> simp [eqGuard]
     . intro s; cases s <;> simp [binOp]
   . refine main _ _ e1 rfl ?_ ?_ ?_
     . rw [e3]; exact nil_fn' (P := P) (w := w) 9999 t p q r ht p' q' r'
     . intro x' y'; cases op <;> simp [eqGuard]
     . intro s; cases s <;> simp [binOp]
theorem nilCmp_spec {op : Op} {kd : Nat} {neg : Bool} {x : X} (h : nilCmp P n op = some (kd, neg, x)) :
   ∃ o t y ty x0, op = .binOp o t x0 y ty /\ o = (if neg = true then BinOp.neq else .eql) /\ nilOp P t y = some kd /\ cX n x0 = some x := by
 cases op with
 | binOp op t x0 y ty =>
   simp only [nilCmp, Option.bind_eq_some_iff] at h
   obtain ⟨k, hk, x1, h1, h2⟩ := h
   split at h2
   . cases h2; exact ⟨_, _, _, _, _, rfl, rfl, hk, h1⟩
   . cases h2; exact ⟨_, _, _, _, _, rfl, rfl, hk, h1⟩
   . cases h2
 | _ => cases h
theorem nq_done (H : HConc E B h w) (hW : Below B W w) (hf : ∀ t, t < n -> Rel E (f t) (a.tmps.getD t undef)) (o : Oper) {kd : Nat} {neg : Bool} {x : X} (hc : nilCmp P n o.op = some (kd, neg, x)) (e : Eff)
   (he : ex f h.blk h.tok st (.nilq kd neg x) = some e) : Done B W E st ((execOp a.eval o).run P w) e h := by
 obtain ⟨op, t, y, ty, x0, h1, h2, h3, h4⟩ := nilCmp_spec hc
 simp only [ex, Option.map_eq_some_iff] at he
 obtain ⟨b, hb, rfl⟩ := he
 exact nilq_done H hW o op neg t ty x0 y h1 h2 _ (cX_ok hf h4) kd b hb h3
theorem nilq_und (H : HConc E B h w) (o : Oper) (op : BinOp) (neg : Bool) (t ty : TypeId) (x y : Operand) (ho : o.op = .binOp op t x y ty) (hop : op = if neg = true then .neq else .eql)
   (v : AV) (hx : Rel E v (a.eval x)) (hv : undV v = true) (hy : nilOp P t y = some 0) : ∃ b : Bool, (execOp a.eval o).run P w = .ok (.value (.bool b)) w := by
 rcases nilOp_spec hy with ⟨_, rfl, e, ht⟩ | ⟨q, _⟩ | ⟨q, _⟩
 . have hk : ∃ ad l c, a.eval x = .slice ad l c := by
     generalize a.eval x = u at hx
     cases v <;> simp only [undV] at hv <;> (try (cases hv; done))
     case lst s xs => cases hx <;> exact ⟨_, _, _, rfl⟩
     case acc nm st s xs =>
       cases hx with
       | acc _ _ _ _ _ _ _ hl => cases hl <;> exact ⟨_, _, _, rfl⟩
     case sl nm st s off len => cases hx; exact ⟨_, _, _, rfl⟩
   obtain ⟨ad, l, c, e1⟩ := hk
   have he : (Op.equal t (.slice ad l c) (.slice none 0 0)).run P w = .ok ad.isNone w := nil_slice (P := P) (w := w) 9999 t e ht ad l c
   refine ⟨if neg = true then !ad.isNone else ad.isNone, ?_⟩
   have hg : ∀ x' y' : Operand, (eqGuard op t x' y' (.slice ad l c) (.slice none 0 0)).run P w = .ok () w := by
     intro x' y'; cases op <;> simp [eqGuard]
   have hb2 : (binOp op t (.slice ad l c) (.slice none 0 0)).run P w = .ok (.bool (if neg = true then !ad.isNone else ad.isNone)) w := by
     subst hop
     cases neg <;> simp [binOp, he]
   have e2 : a.eval (.const (.slice none 0 0)) = .slice none 0 0 := rfl
   simp only [execOp, ho, e1, e2, Sem.run_bind, hg, Result.andThen_ok, hb2, Sem.run_pure]
 . cases q
 . cases q
end
end Go.Gv
