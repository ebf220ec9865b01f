/- Texts of this proof, one behind the other. What is proved, and on which conditions, stands ahead of each. -/
import Derived.Test.YtpaeffcpdpblcaaGreatProg
import Derived.Test.YtpaeffcpdpblcaaGreatM9c1fa5f
import Derived.Test.YtpaeffcpdpblcaaGreatM103f5580

/- asked, the first time: all is made by make's own law. Conditions: those that the law names. -/
set_option linter.unusedVariables false
set_option linter.unusedSimpArgs false
namespace Go.Gv
open Go.Proofs


theorem blk_cell {B : Nat} {E : Env} {h : Hp} {w : World} (H : HConc E B h w) {nm st sz i j : Nat} {es : List AV} {e y : AV} (hb : h.blk nm = some ⟨st, sz, es⟩) (he : es[i]? = some e) (hy : e.cells[j]? = some y) (hs0 : sz ≠ 0 := by first | assumption | omega) :
    ∃ u, w.cell? ⟨(E.m st).1, (E.m st).2 + i * sz + j, none⟩ = some u ∧ Rel E y u ∧ w.frozen? ⟨(E.m st).1, (E.m st).2 + i * sz + j, none⟩ = false := by
  obtain ⟨cur, ty, hh, hsz, hr⟩ := ((H.bk nm _ hb).r hs0).row
  obtain ⟨u, hu1, hu2⟩ := hr i e he j y hy
  refine ⟨u, ?_, hu2, ?_⟩
  · rw [cell_of_row w _ _ cur ty (0, 0) hh]; exact hu1
  · simp only at hh; simp [World.frozen?, hh]
theorem rel_ptr {E : Env} {nm st sz i off : Nat} {v : Value} (h : Rel E (.ptr nm st sz i off) v) : v = .pointer (some ⟨(E.m st).1, (E.m st).2 + i * sz + off, none⟩) ∧ E.u st := by cases h; exact ⟨rfl, by assumption⟩
theorem rel_int {E : Env} {k : IntKind} {n : Int} {v : Value} (h : Rel E (.int k n) v) : v = .int k n := by cases h; rfl
theorem enters88 : enters Tryz.prog 27 := by
  have h : (Tryz.f27.name == "runtime.NumGoroutine") = false := by kernel_rfl
  refine ⟨Tryz.f27, Tryz.func27, by kernel_rfl, fun e => ?_⟩
  rw [e] at h
  simp at h
theorem rel_lst {E : Env} {sz : Nat} {xs : List AV} {v : Value} (h : Rel E (.lst sz xs) v) : ∃ a cap, v = .slice a xs.length cap := by
  cases h with
  | lst0 _ a cap => exact ⟨a, cap, rfl⟩
  | lst _ b o _ cap _ _ _ _ _ _ => exact ⟨_, cap, rfl⟩
theorem once_fin {E : Env} {B : Nat} {W w1 : World} {h : Hp} (H : HConc E B h w1) (hW : RowKit.Below B W w1) {nm st : Nat} {cs : List AV} (hb : h.blk nm = some ⟨st, 12, [.agg cs]⟩) (h4 : cs[4]? = some (.int .u32 0)) (h5 : cs[5]? = some (.int .i32 1)) :
    HConc E B ⟨upd h.blk nm (some ⟨st, 12, [setCells (setCells (.agg cs) 4 [.int .u32 1]) 5 [.int .i32 0]]⟩), h.tok⟩ ((w1.drew.setCell ⟨(E.m st).1, (E.m st).2 + 4, none⟩ (.int .u32 1)).setCell ⟨(E.m st).1, (E.m st).2 + 4 + 1, none⟩ (.int .i32 0)) ∧
    RowKit.Below B W ((w1.drew.setCell ⟨(E.m st).1, (E.m st).2 + 4, none⟩ (.int .u32 1)).setCell ⟨(E.m st).1, (E.m st).2 + 4 + 1, none⟩ (.int .i32 0)) := by
  have l5 : 5 < cs.length := (List.getElem?_eq_some_iff.1 h5).1
  have Hd : HConc E B h w1.drew := H.change H.K (fun _ _ _ => rfl) (fun _ _ _ _ _ => rfl)
  obtain ⟨H4, W4⟩ := blk_setCell Hd hW.drew (nm := nm) (st := st) (sz := 12) (es := [.agg cs]) (e := .agg cs) (i := 0) (off := 4) (x := .int .u32 1) (vx := .int .u32 1) (.int _ _) (by simp [getB, hb]) rfl rfl (by simp [AV.cells]; omega)
  have e4 : setCells (.agg cs) 4 [.int .u32 1] = .agg (cs.take 4 ++ [.int .u32 1] ++ cs.drop 5) := rfl
  obtain ⟨H5, W5⟩ := blk_setCell H4 W4 (nm := nm) (st := st) (sz := 12) (es := [setCells (.agg cs) 4 [.int .u32 1]]) (e := setCells (.agg cs) 4 [.int .u32 1]) (i := 0) (off := 5) (x := .int .i32 0) (vx := .int .i32 0) (.int _ _) (by simp [getB, Hp.setB, upd]) rfl rfl (by rw [e4]; simp [AV.cells]; omega)
  simp only [Nat.zero_mul, Nat.add_zero] at H5 W5
  have hE : ∀ b : Option Blk, (h.setB nm (some ⟨st, 12, [AV.agg cs].set 0 (setCells (.agg cs) 4 [.int .u32 1])⟩)).setB nm b = ⟨upd h.blk nm b, h.tok⟩ := by
    intro b
    simp only [Hp.setB]
    congr 1
    funext n
    simp only [upd]
    split <;> rfl
  rw [hE] at H5
  exact ⟨H5, W5⟩
set_option maxRecDepth 100000 in
set_option maxHeartbeats 1600000 in
theorem asked_first (nm st : Nat) (cs hs : List AV) (c0 : cs[0]? = some (.lst 2 hs)) (c4 : cs[4]? = some (.int .u32 0)) (c5 : cs[5]? = some (.int .i32 0)) (n : Int) {S : St} {k : AV → St → Prop} (hb : S.blk nm = some ⟨st, 12, [.agg cs]⟩)
    (hm : CallP Tryz.prog (.fn 42 []) [.ptr nm st 12 0 0] ⟨S.t, upd S.blk nm (some ⟨st, 12, [setCells (.agg cs) 5 [.int .i32 1]]⟩), S.tok, S.clk⟩ (fun r S' => r = .tup [] ∧ ∃ cs', S'.blk nm = some ⟨st, 12, [.agg cs']⟩ ∧ cs'[0]? = some (.lst 2 hs) ∧ cs'[4]? = some (.int .u32 0) ∧ cs'[5]? = some (.int .i32 1) ∧
      k (.bool (decide (0 ≤ n) && decide (n < hs.length))) ⟨S'.t, upd S'.blk nm (some ⟨st, 12, [setCells (setCells (.agg cs') 4 [.int .u32 1]) 5 [.int .i32 0]]⟩), S'.tok, S'.clk⟩)) :
    CallP Tryz.prog (.fn 27 []) [.ptr nm st 12 0 0, .int .i64 n] S k := by
  obtain ⟨g, caps, hg, hent, hc⟩ := hm
  obtain ⟨rfl, rfl⟩ : 42 = g ∧ [] = caps := by cases hg; exact ⟨rfl, rfl⟩
  refine ⟨27, [], rfl, enters88, fun E B W w args H hW hB hu hsz hrel => ?_⟩
  obtain ⟨v0, v1, rfl⟩ : ∃ v0 v1, args = #[v0, v1] := by
    have : args.size = 2 := by simpa using hsz
    exact ⟨args[0], args[1], by apply Array.ext <;> simp [this]; intro i hi; rcases i with _ | _ | i <;> simp; omega⟩
  have r0 := hrel 0 _ v0 rfl rfl
  have r1 := hrel 1 _ v1 rfl rfl
  obtain ⟨rfl, hus⟩ := rel_ptr r0
  obtain rfl := rel_int r1
  obtain ⟨u4, e4, q4, f4⟩ := blk_cell H (nm := nm) (i := 0) (j := 4) hb rfl c4
  obtain ⟨u5, e5, q5, f5⟩ := blk_cell H (nm := nm) (i := 0) (j := 5) hb rfl c5
  obtain rfl := rel_int q4
  obtain rfl := rel_int q5
  have hg0 : getB S.blk nm st 12 = some [.agg cs] := by simp [getB, hb]
  have hlt5 : 5 < (AV.agg cs).cells.length := (List.getElem?_eq_some_iff.1 c5).1
  obtain ⟨H5, W5⟩ := blk_setCell H hW (i := 0) (off := 5) (x := .int .i32 1) (vx := .int .i32 1) (.int _ _) hg0 rfl rfl hlt5
  have hrunm := hc E B W _ #[.pointer (some ⟨(E.m st).1, (E.m st).2 + 0 * 12 + 0, none⟩)] H5 W5 hB hu rfl (by
    intro j y u hy hu'
    rcases j with _ | j
    · cases hy; cases hu'; exact r0
    · cases hy)
  simp only [Nat.zero_mul, Nat.add_zero] at *
  have hmk := hrunm.mono (R' := fun e w' => e = .returned (.tuple #[]) ∧ (∃ (E' : Env) (S' : St) (cs' : List AV), E.le E' ∧ HConc E' B S'.h w' ∧ RowKit.Below B W w' ∧ (∀ b o, b < B → E'.K b o = E.K b o) ∧ (∀ s, E'.u s → (E.u s ∨ S.clk ≤ s) ∧ s < S'.clk) ∧ S.clk ≤ S'.clk ∧ S'.t = S.t ∧
      S'.blk nm = some ⟨st, 12, [.agg cs']⟩ ∧ cs'[0]? = some (.lst 2 hs) ∧ cs'[4]? = some (.int .u32 0) ∧ cs'[5]? = some (.int .i32 1) ∧
      k (.bool (decide (0 ≤ n) && decide (n < hs.length))) ⟨S'.t, upd S'.blk nm (some ⟨st, 12, [setCells (setCells (.agg cs') 4 [.int .u32 1]) 5 [.int .i32 0]]⟩), S'.tok, S'.clk⟩) ∧
      (∃ x, w'.cell? ⟨(E.m st).1, (E.m st).2 + 4, none⟩ = some x) ∧ w'.cell? ⟨(E.m st).1, (E.m st).2 + 4 + 1, none⟩ = some (.int .i32 1) ∧ w'.frozen? ⟨(E.m st).1, (E.m st).2 + 4, none⟩ = false ∧ w'.frozen? ⟨(E.m st).1, (E.m st).2 + 4 + 1, none⟩ = false) (by
    rintro e w' ⟨v, E', r, S', rfl, a1, a2, a3, a4, a5, a6, a7, a8, rfl, cs', b1, b2, b3, b4, b5⟩
    have hm' : E'.m st = E.m st := a1.m st hus
    obtain ⟨u4', x4, y4, z4⟩ := blk_cell a2 (nm := nm) (i := 0) (j := 4) b1 rfl b3
    obtain ⟨u5', x5, y5, z5⟩ := blk_cell a2 (nm := nm) (i := 0) (j := 5) b1 rfl b4
    obtain rfl := rel_int y5
    rw [hm'] at x4 x5 z4 z5
    simp only [Nat.zero_mul, Nat.add_zero] at x4 x5 z4 z5
    have hv : v = .tuple #[] := by
      cases a8 with
      | tup _ vs hs' _ => simp at hs'; rw [Array.eq_empty_of_size_eq_zero hs'.symm]
    subst hv
    exact ⟨rfl, ⟨E', S', cs', a1, a2, a3, a4, a5, a6, a7, b1, b2, b3, b4, b5⟩, ⟨_, x4⟩, x5, z4, z5⟩)
  have hmf : ∀ (fn : Fn) (first cap : Array Value) (w : World), (Instr.makeFunc fn first cap).run Tryz.prog w = .ok (.func fn first cap) w := fun _ _ _ _ => rfl
  go_enter Tryz.func27, Tryz.ntmps27
  go_wp2_with (go_at_call 41; refine (once_first _ _ _ _ _ e4 e5 f4 f5 hmk).mono ?_; rintro e w' ⟨rfl, w1, ⟨E', S', cs', a1, a2, a3, a4, a5, a6, a7, b1, b2, b3, b4, b5⟩, rfl⟩; obtain ⟨u0, x0, y0, z0⟩ := blk_cell a2 (nm := nm) (i := 0) (j := 0) b1 rfl b2; obtain ⟨sl, cap, rfl⟩ := rel_lst y0; rw [a1.m st hus] at x0 z0; simp only [Nat.zero_mul, Nat.add_zero] at x0 z0; have xw : (((w1.drew.setCell ⟨(E.m st).1, (E.m st).2 + 4, none⟩ (.int .u32 1)).setCell ⟨(E.m st).1, (E.m st).2 + 4 + 1, none⟩ (.int .i32 0))).cell? ⟨(E.m st).1, (E.m st).2, none⟩ = some (.slice sl hs.length cap) := ((World.cell?_setCell_other _ _ _ _ (by simp; omega)).trans (World.cell?_setCell_other _ _ _ _ (by simp))).trans (by rw [World.cell?_drew]; exact x0))
  · obtain ⟨F1, F2⟩ := once_fin a2 a3 b1 b3 b4
    rw [a1.m st hus] at F1 F2
    go_ret
    refine ⟨_, E', .bool (decide (n < hs.length)), ⟨S'.t, upd S'.blk nm (some ⟨st, 12, [setCells (setCells (.agg cs') 4 [.int .u32 1]) 5 [.int .i32 0]]⟩), S'.tok, S'.clk⟩, rfl, a1, F1, F2, a4, a5, a6, a7, .bool _, ?_⟩
    have h0 : 0 ≤ n := by omega
    simpa [h0] using b5
  · obtain ⟨F1, F2⟩ := once_fin a2 a3 b1 b3 b4
    rw [a1.m st hus] at F1 F2
    go_ret
    refine ⟨_, rfl, E', a1, .bool false, ⟨S'.t, upd S'.blk nm (some ⟨st, 12, [setCells (setCells (.agg cs') 4 [.int .u32 1]) 5 [.int .i32 0]]⟩), S'.tok, S'.clk⟩, F1, F2, a4, a5, a6, a7, .bool _, ?_⟩
    have h0 : ¬ 0 ≤ n := by omega
    simpa [h0] using b5

end Go.Gv
