/- Texts of this proof, one behind the other. What is proved, and on which conditions, stands ahead of each. -/
import Derived.Test.YtpaeffcpdpblcaaGreatProg
import Derived.Test.YtpaeffcpdpblcaaGreatM7ddf0ef
import Derived.Test.YtpaeffcpdpblcaaGreatM130af86d
import Derived.Test.YtpaeffcpdpblcaaGreatM14be5a71

/- slices.Grow at no list, slices.Concat, and slices.Compact at whole numbers. Conditions: those that each law names. -/
set_option linter.unusedVariables false
set_option linter.unusedSimpArgs false
namespace Go.Gv
open Go.Proofs

def concat_r0 : List AI := [⟨(some 2), none, (.op (.mv (.c .nils)))⟩]
def concat_r1 : List AI := [⟨(some 3), none, (.op (.mv (.c (.int .i64 0))))⟩]
def concat_r2 : List AI := [⟨(some 9), none, (.op (.mv (.t 0)))⟩, ⟨(some 10), none, (.op (.len (.t 9)))⟩, ⟨(some 11), none, (.op (.mv (.c (.int .i64 0))))⟩]
def concat_r3 : List AI := [⟨(some 12), none, (.op (.ibin .lss (.t 11) (.t 10)))⟩]
def concat_r4 : List AI := [⟨(some 13), none, (.op (.idx 1 (.t 9) (.t 11)))⟩, ⟨(some 14), none, (.op (.load none (.t 13)))⟩, ⟨(some 5), none, (.op (.mv (.t 14)))⟩]
def concat_r5 : List AI := [⟨(some 15), none, (.op (.mv (.t 3)))⟩, ⟨(some 16), none, (.op (.mv (.t 5)))⟩, ⟨(some 17), none, (.op (.len (.t 16)))⟩, ⟨(some 18), none, (.op (.ibin .add (.t 15) (.t 17)))⟩, ⟨(some 3), none, (.op (.mv (.t 18)))⟩]
def concat_r6 : List AI := [⟨(some 19), none, (.op (.mv (.t 3)))⟩, ⟨(some 20), none, (.op (.ibin .lss (.t 19) (.c (.int .i64 0))))⟩]
def concat_r7 : List AI := [⟨(some 21), none, (.op .bad)⟩, ⟨none, none, (.op .bad)⟩]
def concat_r8 : List AI := [⟨(some 22), none, (.op (.ibin .add (.t 11) (.c (.int .i64 1))))⟩, ⟨(some 11), none, (.op (.mv (.t 22)))⟩]
def concat_l0 : AC := (.seq (.reg concat_r3) (.seq (.cond (.t 12) .skip (.exit 0)) (.seq (.block 1 (.seq (.reg concat_r4) (.seq (.reg concat_r5) (.seq (.reg concat_r6) (.cond (.t 20) (.reg concat_r7) .skip))))) (.reg concat_r8))))
def concat_r9 : List AI := [⟨(some 23), none, (.op (.mv (.t 3)))⟩, ⟨(some 24), none, (.call (.c (.fn 104 [])) [(.c .nils), (.t 23)])⟩, ⟨(some 6), none, (.op (.mv (.t 24)))⟩]
def concat_r10 : List AI := [⟨(some 25), none, (.op (.mv (.t 0)))⟩, ⟨(some 26), none, (.op (.len (.t 25)))⟩, ⟨(some 27), none, (.op (.mv (.c (.int .i64 0))))⟩]
def concat_r11 : List AI := [⟨(some 28), none, (.op (.ibin .lss (.t 27) (.t 26)))⟩]
def concat_r12 : List AI := [⟨(some 29), none, (.op (.idx 1 (.t 25) (.t 27)))⟩, ⟨(some 30), none, (.op (.load none (.t 29)))⟩, ⟨(some 8), none, (.op (.mv (.t 30)))⟩]
def concat_r13 : List AI := [⟨(some 31), none, (.op (.mv (.t 6)))⟩, ⟨(some 32), none, (.op (.mv (.t 8)))⟩, ⟨(some 33), none, (.op (.app 131033 1 3 8 (.t 31) (.t 32)))⟩, ⟨(some 6), none, (.op (.mv (.t 33)))⟩]
def concat_r14 : List AI := [⟨(some 34), none, (.op (.ibin .add (.t 27) (.c (.int .i64 1))))⟩, ⟨(some 27), none, (.op (.mv (.t 34)))⟩]
def concat_l1 : AC := (.seq (.reg concat_r11) (.seq (.cond (.t 28) .skip (.exit 2)) (.seq (.block 3 (.seq (.reg concat_r12) (.reg concat_r13))) (.reg concat_r14))))
def concat_r15 : List AI := [⟨(some 35), none, (.op (.mv (.t 6)))⟩, ⟨(some 2), none, (.op (.mv (.t 35)))⟩]
def concat_c : AC := (.seq (.reg concat_r0) (.seq (.reg concat_r1) (.seq (.seq (.reg concat_r2) (.block 0 (.loop concat_l0))) (.seq (.reg concat_r9) (.seq (.seq (.reg concat_r10) (.block 2 (.loop concat_l1))) (.seq (.reg concat_r15) .ret))))))
def concat_res : List ARes := [(.tmp 2)]
set_option maxRecDepth 100000 in
theorem concat_get : getF Tryz.prog 80 131000 [] = some ("slices.Concat[[]int,int]", 36, concat_c, concat_res) := by kernel_rfl
attribute [simp] concat_r0 concat_r1 concat_r2 concat_r3 concat_r4 concat_r5 concat_r6 concat_r7 concat_r8 concat_r9 concat_r10 concat_r11 concat_r12 concat_r13 concat_r14 concat_r15 concat_res


open Go.Sort Go.Shelf Go.RowKit
theorem grow_v (n : Nat) (hn : n ≤ 1000000) {S : St} {k : AV → St → Prop} {u : Dep k} (h0 : n = 0 → k .nils S) (h1 : 0 < n → k (.acc 99000 S.clk 1 []) ⟨S.t, S.blk, upd S.tok 99000 (some ⟨S.clk, 1, 3⟩), S.clk + 1⟩) :
    CallG Tryz.prog (.fn 104 []) [.nils, iv n] S k u := by
  refine ⟨104, [], rfl, entersF 104 _ Tryz.func104 (by kernel_rfl) (by kernel_rfl), fun E B W w args H hW hB hu hsz hrel => ?_⟩
  obtain ⟨v0, v1, rfl⟩ := args2 (by simpa using hsz)
  obtain rfl := (hrel 0 _ v0 rfl rfl).nils_inv
  obtain rfl := rel_int (hrel 1 _ v1 rfl rfl)
  by_cases hz : n = 0
  · subst hz
    have hcon := Any8.slices_Grow_room Tryz.growI none 0 0 0 w (by omega) (by omega) (by omega) (by omega)
    change Calls Tryz.prog 104 _ _ _ at hcon
    refine hcon.mono ?_
    rintro e w' ⟨rfl, rfl⟩
    exact ⟨_, E, .nils, S, rfl, .refl E, H, hW, fun _ _ _ => rfl, fun s hs => ⟨.inl hs, hu s hs⟩, Nat.le_refl _, rfl, .nils, h0 rfl⟩
  · have hpos : 0 < n := by omega
    obtain ⟨i0, hi0, hz0, hs1, hby⟩ : ∃ i0 : TypeInfo, Tryz.prog.info? 3 = some i0 ∧ i0.zero = some (.int .i64 0) ∧ i0.size = 1 ∧ i0.bytes = 8 := by
      have hm : (Tryz.prog.info? 3).map (fun i => (i.zero, i.size, i.bytes)) = some (some (.int .i64 0), 1, 8) := by kernel_rfl
      rw [Option.map_eq_some_iff] at hm
      obtain ⟨i0, q1, q2⟩ := hm
      simp only [Prod.mk.injEq] at q2
      exact ⟨i0, q1, q2.1, q2.2.1, q2.2.2⟩
    have hcon := Any8.slices_Grow_grow Tryz.growI i0 (.int .i64 0) hi0 hz0 (by omega) none 0 0 n [] w (by omega) (by omega) (by rw [hby]; omega) (by omega) (by simp) (by simp) (by simp)
    change Calls Tryz.prog 104 _ _ _ at hcon
    rw [show Tryz.growI_ren.t 25 = 3 from rfl] at hcon
    refine hcon.mono ?_
    rintro e w' ⟨rfl, rfl⟩
    have hge := grownCap_ge w (0 + n) 0 3
    have hcm : grownCap w (0 + n) 0 3 ≤ maxLen := grownCap_le_maxLen w (0 + n) 0 3 (by simp [maxLen]; omega)
    generalize hcap : grownCap w (0 + n) 0 3 = cap at *
    have hcells : (([] : List Value).toArray ++ Builtin.zeroCells (Value.int .i64 0).cells (0 + n - 0) ++ Builtin.zeroCells (Value.int .i64 0).cells (cap - (0 + n))).size = cap := by
      simp [size_zeroCells, Value.cells]; omega
    generalize (([] : List Value).toArray ++ Builtin.zeroCells (Value.int .i64 0).cells (0 + n - 0) ++ Builtin.zeroCells (Value.int .i64 0).cells (cap - (0 + n))) = cur at hcells
    have hst : ¬ E.u S.clk := fun q => by have := hu _ q; omega
    have Hd : HConc E B S.h w.drew := H.change H.K (fun _ _ _ => rfl) (fun _ _ _ _ _ => rfl)
    have H1 : HConc E B S.h (w.drew.alloc (.cells cur 3)) := Hd.grow (fun k hk => _root_.Go.heap_alloc_old w.drew _ hk)
    have hown : (w.drew.alloc (.cells cur 3)).ownsRow B 3 1 (.slice (some ⟨w.heap.size, 0, none⟩) 0 cap) ([] : List AV).length [] :=
      ⟨rfl, .inr ⟨w.heap.size, cap, cur, rfl, Nat.le_trans hB hW.size, _root_.Go.heap_alloc_new w.drew _, Nat.zero_le _, hcm, by omega, by simp⟩⟩
    obtain ⟨E', a1, a2, a3, a4, a5⟩ := H1.newAcc 99000 S.clk 1 3 hst [] (.slice (some ⟨w.heap.size, 0, none⟩) 0 cap) [] hown (by simp) (by simp)
      (fun n b hb q => by have := (H.bk n b hb).lt; simp [Value.ownBlock] at q; omega) (fun n t ht _ g hg q => by have := ((H.tk n t ht).lt hg).2; simp [Value.ownBlock] at q; omega)
      (fun g j hg _ => by simp [Value.ownBlock] at hg; subst hg; exact K_none H (Nat.le_refl _) j)
    refine ⟨_, E', .acc 99000 S.clk 1 [], ⟨S.t, S.blk, upd S.tok 99000 (some ⟨S.clk, 1, 3⟩), S.clk + 1⟩, rfl, a1, a4, ?_, a3, fun s hs => ?_, by simp, rfl, a5, h1 hpos⟩
    · exact hW.drew.alloc (Nat.le_trans hB hW.size) _
    · rcases a2 s hs with q | q
      · exact ⟨.inl q, Nat.lt_succ_of_lt (hu s q)⟩
      · exact ⟨.inr (by omega), by simp only; omega⟩
-- slices.Concat: the lists, one behind the other.
def AccG (S : St) (v : AV) (xs : List Int) : Prop := (v = .nils ∧ xs = []) ∨ ∃ nm st, v = .acc nm st 1 (xs.map iv) ∧ S.tok nm = some ⟨st, 1, 3⟩
def tot (ls : List (List Int)) (i : Nat) : Nat := (ls.take i).flatten.length
theorem flat_take (ls : List (List Int)) (i : Nat) (h : i < ls.length) : (ls.take (i + 1)).flatten = (ls.take i).flatten ++ ls[i] := by
  rw [List.take_succ_eq_append_getElem h, List.flatten_append]; simp
theorem tot_succ (ls : List (List Int)) (i : Nat) (h : i < ls.length) : tot ls (i + 1) = tot ls i + ls[i].length := by simp only [tot, flat_take ls i h, List.length_append]
theorem tot_le (ls : List (List Int)) (i : Nat) : tot ls i ≤ ls.flatten.length := by
  have : ls.flatten = (ls.take i).flatten ++ (ls.drop i).flatten := by rw [← List.flatten_append, List.take_append_drop]
  rw [this, List.length_append]; unfold tot; omega
def CJ (ls : List (List Int)) (i : Nat) (S : St) : Prop := S.t 0 = .lst 1 (ls.map ints) ∧ S.t 25 = .lst 1 (ls.map ints) ∧ S.t 26 = iv ls.length ∧ S.t 27 = iv i ∧ ∃ v, S.t 6 = v ∧ AccG S v (ls.take i).flatten
theorem concat_in (ls : List (List Int)) (h1 : ls.length ≤ 1000) (h2 : ls.flatten.length ≤ 1000000) {κ : Ex → St → Prop} (hκ : ∀ S v, S.t 6 = v → AccG S v ls.flatten → κ (.exit 2) S) (i : Nat) (S : St) (hi : i ≤ ls.length) (h : CJ ls i S) :
    V Tryz.prog concat_l1 (Lp κ fun S'' => i < ls.length ∧ CJ ls (i + 1) S'') S := by
  obtain ⟨g0, g25, g26, g27, v, g6, hv⟩ := h
  by_cases hlt : i < ls.length
  · have hw := wrap_succ i _ hlt (by omega)
    have e3 := tot_le ls (i + 1)
    rw [tot_succ ls i hlt] at e3
    have hb : ((List.map iv (ls.take i).flatten).length + ls[i].length) * 8 ≤ 140737488355328 := by
      rw [List.length_map]; unfold tot at e3; omega
    have ht := flat_take ls i hlt
    rcases hv with ⟨rfl, hx⟩ | ⟨nm, st, rfl, hk⟩
    · rw [hx] at hb ht
      simp only [List.map_nil, List.length_nil, Nat.zero_add] at hb
      simp only [concat_l1, CJ, AccG]
      generalize (ls.take (i + 1)).flatten = ys at *
      simp [g0, g25, g26, g27, g6, hlt, ints, hb, hw]
      exact ⟨131033, _, ⟨rfl, rfl, by rw [ht]; simp⟩, by simp⟩
    · simp only [List.length_map] at hb
      simp only [concat_l1, CJ, AccG]
      generalize (ls.take i).flatten = xs at *
      generalize (ls.take (i + 1)).flatten = ys at *
      simp [g0, g25, g26, g27, g6, hlt, ints, hb, hw, hk]
      exact ⟨131033, _, ⟨rfl, rfl, by rw [ht]; simp⟩, by simp⟩
  · have e1 : i = ls.length := by omega
    subst e1
    rw [List.take_length] at hv
    simp [concat_l1, g0, g25, g26, g27]
    exact hκ _ v (by simp [g6]) (by rcases hv with q | ⟨nm, st, q1, q2⟩; exact .inl q; exact .inr ⟨nm, st, q1, q2⟩)
theorem concat_pc (ls : List (List Int)) (h1 : ls.length ≤ 1000) (h2 : ls.flatten.length ≤ 1000000) : PC Tryz.prog 80 [.lst 1 (ls.map ints)] (ints ls.flatten) := by
  refine pc_of_get concat_get (by simp) _ (by simp) _ ?_
  unfold concat_c
  simp
  refine loopN (fun i S => S.t 0 = .lst 1 (ls.map ints) ∧ S.t 9 = .lst 1 (ls.map ints) ∧ S.t 10 = iv ls.length ∧ S.t 11 = iv i ∧ S.t 3 = iv (tot ls i)) ls.length ?_ ?_
  · simp [tot]
  · rintro i S hi ⟨g0, g9, g10, g11, g3⟩
    by_cases hlt : i < ls.length
    · have hw := wrap_succ i _ hlt (by omega)
      have e3 := tot_le ls (i + 1)
      rw [tot_succ ls i hlt] at e3
      have hw2 : IntKind.i64.wrap ((tot ls i : Int) + (ls[i].length : Int)) = (tot ls (i + 1) : Int) := by
        rw [tot_succ ls i hlt, wrap_in _ (by omega) (by omega)]; simp
      have hnn : ¬ ((tot ls (i + 1) : Int) < 0) := by omega
      simp [concat_l0, g0, g9, g10, g11, g3, hlt, ints, hw2, hnn, hw]
    · have e1 : i = ls.length := by omega
      subst e1
      have ht : tot ls ls.length = ls.flatten.length := by simp only [tot, List.take_length]
      simp [concat_l0, g0, g9, g10, g11, g3]
      generalize hT : tot ls ls.length = T at *
      refine grow_v T (by omega) (fun h0 => ?_) (fun h0 => ?_)
      · simp [g0]
        refine loopN (CJ ls) ls.length ?_ (concat_in ls h1 h2 ?_)
        · simp [CJ, g0, AccG]
        · intro S' v g6 hv
          simp [g6]
          rcases hv with ⟨rfl, q⟩ | ⟨nm, st, rfl, _⟩
          · simp [ints, q]
          · simp [ints]
      · simp [g0]
        refine loopN (CJ ls) ls.length ?_ (concat_in ls h1 h2 ?_)
        · simp [CJ, g0, AccG]
          exact ⟨99000, _, ⟨rfl, rfl⟩, by simp⟩
        · intro S' v g6 hv
          simp [g6]
          rcases hv with ⟨rfl, q⟩ | ⟨nm, st, rfl, _⟩
          · simp [ints, q]
          · simp [ints]
theorem compact_v (nm st : Nat) (zs : List Int) (hzs : zs.length < 1000000) {S : St} {k : AV → St → Prop} {u : Dep k} (hb : S.blk nm = some ⟨st, 1, zs.map iv⟩)
    (hk : k (.sl nm st 1 0 (Lib.compact zs).length) ⟨S.t, upd S.blk nm (some ⟨st, 1, (Lib.compact zs ++ List.replicate (zs.length - (Lib.compact zs).length) 0).map iv⟩), S.tok, S.clk⟩) (hc : (Lib.compact zs).length ≤ zs.length) :
    CallG Tryz.prog (.fn 62 []) [.sl nm st 1 0 zs.length] S k u := by
  refine ⟨62, [], rfl, entersF 62 _ Tryz.func62 (by kernel_rfl) (by kernel_rfl), fun E B W w args H hW hB hu hsz hrel => ?_⟩
  obtain ⟨v0, rfl⟩ := args1 (by simpa using hsz)
  have r0 := hrel 0 _ v0 rfl rfl
  have hbk0 := H.bk nm _ hb
  have hbk := hbk0.r (by simp)
  have hbu := H.bu nm _ hb
  obtain ⟨cur, ty, hh, hsz', hr⟩ := hbk.row
  simp only [Nat.mul_one] at hh hsz' hr hbu
  have hcp := hbk.len
  simp only [List.length_map] at hcp
  have cell : ∀ j (h : j < zs.length), cur[(E.m st).2 + j]? = some (.int .i64 zs[j]) := by
    intro j h
    obtain ⟨x, x1, x2⟩ := hr j (iv zs[j]) (by simp [h]) 0 _ rfl
    obtain rfl := rel_int x2
    exact x1
  cases r0 with
  | sl _ _ _ _ _ cap a hu' hcap hcc ha =>
    by_cases hz0 : zs.length = 0
    · have hz : zs = [] := List.eq_nil_of_length_eq_zero hz0
      subst hz
      have hcon := Any.slices_Compact_int_empty Tryz.compactI a cap w
      change Calls Tryz.prog 62 _ _ _ at hcon
      refine hcon.mono ?_
      rintro e w' ⟨rfl, rfl⟩
      have hl0 : (Lib.compact ([] : List Int)).length = 0 := by simpa using hc
      have hl1 : Lib.compact ([] : List Int) = [] := List.eq_nil_of_length_eq_zero hl0
      rw [hl0] at hk
      rw [hl1] at hk
      have e1 : (⟨S.t, upd S.blk nm (some ⟨st, 1, (([] : List Int) ++ List.replicate (([] : List Int).length - 0) 0).map iv⟩), S.tok, S.clk⟩ : St) = S := by
        refine St.ext' (fun _ => rfl) (fun x => ?_) (fun _ => rfl) rfl
        simp only [upd]
        split
        · rename_i q; rw [q, hb]; rfl
        · rfl
      rw [e1] at hk
      exact ⟨_, E, .sl nm st 1 0 0, S, rfl, .refl E, H, hW, fun _ _ _ => rfl, fun s hs => ⟨.inl hs, hu s hs⟩, Nat.le_refl _, rfl, .sl nm st 1 0 0 cap a hu' (Nat.zero_le _) hcc ha, hk⟩
    · rw [ha (by omega)]
      simp only [Nat.zero_mul, Nat.add_zero]
      have hH : Holds (Value.int .i64) w (E.m st).1 (E.m st).2 zs.toArray := by
        intro j hj
        have hj' : j < zs.length := by simpa using hj
        refine ⟨?_, by simp [World.frozen?, hh]⟩
        rw [cell_of_row w _ _ cur ty (0, 0) hh, cell j hj']
        simp [hj']
      have hcon := Any.slices_Compact_int Tryz.compactI (E.m st).1 (E.m st).2 cap zs w hH (by omega) hcap
      change Calls Tryz.prog 62 _ _ _ at hcon
      refine hcon.mono ?_
      rintro e w' ⟨rfl, q, rfl⟩
      have hml : (Lib.compact zs ++ List.replicate (zs.length - (Lib.compact zs).length) 0).length = zs.length := by simp; omega
      generalize hso : Lib.compact zs ++ List.replicate (zs.length - (Lib.compact zs).length) 0 = so at *
      obtain ⟨g1, g2⟩ := putRow_row hh q (E.m st).2 so.toArray #[]
      have hgr : ∀ w : World, grow w #[] = w := fun w => by simp [grow]
      rw [hgr] at g1 g2
      have hsl : w.heap.size ≤ (putRow (Value.int .i64) (Sort.ahead w q) (E.m st).1 (E.m st).2 so.toArray).heap.size := by
        simp [putRow, mapBlock, Sort.ahead]
      have hB2 : RowKit.Below B w (putRow (Value.int .i64) (Sort.ahead w q) (E.m st).1 (E.m st).2 so.toArray) := by
        refine ⟨rfl, rfl, rfl, hsl, fun c hc => ?_⟩
        have h2 := hbk.base
        have h3 := hbk0.lt
        simp only at h2 h3
        exact g2 c (by omega) (by omega)
      generalize hW2 : putRow (Value.int .i64) (Sort.ahead w q) (E.m st).1 (E.m st).2 so.toArray = w2 at *
      have hcz : (E.m st).2 + so.toArray.size ≤ cur.size := by simp [hml]; omega
      have hps : (putCells (Value.int .i64) (E.m st).2 so.toArray cur).size = cur.size := by simp [putCells]
      have H1 := H.inBlk (nm := nm) hb (so.map iv) cur (putCells (Value.int .i64) (E.m st).2 so.toArray cur) ty hh (by
          intro x hx
          obtain ⟨q, _, rfl⟩ := List.mem_map.1 hx
          exact ⟨rfl, by simp [AV.cells, AV.one]⟩) (by simp [hml]) hps (by
          intro i y hy j z hz'
          simp only [Nat.mul_one]
          have hi2 : i < so.length := by have := (List.getElem?_eq_some_iff.1 hy).1; simpa using this
          simp [hi2] at hy
          subst hy
          rcases j with _ | j
          · simp [AV.cells] at hz'
            subst hz'
            refine ⟨.int .i64 so[i], ?_, .int _ _⟩
            rw [putCells_get _ _ _ _ hcz, if_pos ⟨by omega, by simp; omega⟩]
            simp [hi2]
          · simp [AV.cells] at hz')
      have H2 := H1.grow (w' := w2) (by
        intro c hc'
        have hcl : c < w.heap.size := by simpa [World.setRow] using hc'
        by_cases hcb : c = (E.m st).1
        · subst hcb
          rw [g1]
          exact (setRow_heap w _ cur _ ty _ hh).symm
        · rw [g2 c hcb hcl]
          exact (setRow_other w _ _ _ hcb).symm)
      refine ⟨_, E, .sl nm st 1 0 (Lib.compact zs).length, ⟨S.t, upd S.blk nm (some ⟨st, 1, so.map iv⟩), S.tok, S.clk⟩, rfl, .refl E, H2, hW.trans hB2, fun _ _ _ => rfl, fun s hs => ⟨.inl hs, hu s hs⟩, Nat.le_refl _, rfl, ?_, hk⟩
      exact Rel.sl nm st 1 0 _ cap _ hu' (by omega) (by omega) (fun _ => by simp)
theorem closed_ints (l : List Int) : closedL (l.map iv) := by
  intro x hx y hy
  obtain ⟨q, _, rfl⟩ := List.mem_map.1 hx
  simp at hy
  subst hy
  rfl
theorem compact_l (nm st : Nat) (zs : List Int) (hzs : zs.length < 1000000) {blk : Nat → Option Blk} (hb : blk nm = some ⟨st, 1, zs.map iv⟩) (hc : (Lib.compact zs).length ≤ zs.length) :
    LCallP Tryz.prog (.fn 62 []) [.sl nm st 1 0 zs.length] blk (effL [nm] [] (ints (Lib.compact zs))) := by
  refine LCallP.of [nm] [] _ rfl (fun T hT => ?_)
  have hbT : T.blk nm = some ⟨st, 1, zs.map iv⟩ := by rw [hT nm (by simp)]; exact hb
  refine CallP.told1 (k' := fun r S => r = .sl nm st 1 0 (Lib.compact zs).length ∧ S = ⟨T.t, upd T.blk nm (some ⟨st, 1, (Lib.compact zs ++ List.replicate (zs.length - (Lib.compact zs).length) 0).map iv⟩), T.tok, T.clk⟩) (compact_v nm st zs hzs (u := .mk) hbT ⟨rfl, rfl⟩ hc) ?_
  rintro r S' ⟨rfl, rfl⟩
  refine ⟨ints (Lib.compact zs), ⟨T.t, upd T.blk nm none, T.tok, T.clk⟩, fun E B w H hu => ?_, Nat.le_refl _, rfl, fun _ _ q => q, fun n hn => by simp at hn; simp [hn], fun _ _ => rfl⟩
  obtain ⟨E', c1, c2, c3, c4, c5⟩ := freeze_out H (nm := nm) (st := st) (sz := 1) (by simp) (es := (Lib.compact zs ++ List.replicate (zs.length - (Lib.compact zs).length) 0).map iv) (by simp [St.h]) (closed_ints _)
  refine ⟨E', c1, ?_, c3, c4, fun v hv => ?_⟩
  · have e : (St.h ⟨T.t, upd T.blk nm (some ⟨st, 1, (Lib.compact zs ++ List.replicate (zs.length - (Lib.compact zs).length) 0).map iv⟩), T.tok, T.clk⟩).setB nm none = St.h ⟨T.t, upd T.blk nm none, T.tok, T.clk⟩ := by
      simp only [St.h, Hp.setB]
      congr 1
      funext x
      simp only [upd]
      split <;> rfl
    rw [← e]; exact c2
  · have := c5 0 (Lib.compact zs).length v (by simp) hv
    simpa [ints] using this

end Go.Gv
