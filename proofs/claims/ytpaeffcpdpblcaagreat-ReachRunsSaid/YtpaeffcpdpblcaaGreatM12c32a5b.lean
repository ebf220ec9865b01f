/- Texts of this proof, one behind the other. What is proved, and on which conditions, stands ahead of each. -/
import Derived.Test.YtpaeffcpdpblcaaGreatProg
import Derived.Test.YtpaeffcpdpblcaaGreatM11804a69

/- atomic.Int64's Load and Add, and asked where all is made, as laws of calls. Conditions: those that each law names. -/
set_option linter.unusedVariables false
set_option linter.unusedSimpArgs false
namespace Go.Gv
open Go.Proofs


theorem entersF (f : Nat) (fn : Func) (hf : Tryz.prog.funcs[f]? = some fn) (hb : fn.body.isSome = true) (hn : (fn.name == "runtime.NumGoroutine") = false) : enters Tryz.prog f :=
  ⟨fn, hf, hb, fun e => by rw [e] at hn; simp at hn⟩
theorem args1 {args : Array Value} (h : args.size = 1) : ∃ v, args = #[v] :=
  ⟨args[0], by apply Array.ext <;> simp [h]; rintro i rfl; rfl⟩
theorem args2 {args : Array Value} (h : args.size = 2) : ∃ v0 v1, args = #[v0, v1] :=
  ⟨args[0], args[1], by apply Array.ext <;> simp [h]; intro i hi; rcases i with _ | _ | i <;> simp; omega⟩
theorem load64_v (nm st sz off : Nat) (hz : sz ≠ 0) (e : AV) (n : Int) {S : St} {k : AV → St → Prop} {u : Dep k} (hb : S.blk nm = some ⟨st, sz, [e]⟩) (he : e.cells[off]? = some (.int .i64 n)) (hk : k (.int .i64 n) S) :
    CallG Tryz.prog (.fn 32 []) [.ptr nm st sz 0 off] S k u := by
  refine ⟨32, [], rfl, entersF 32 _ Tryz.func32 (by kernel_rfl) (by kernel_rfl), fun E B W w args H hW hB hu hsz hrel => ?_⟩
  obtain ⟨v0, rfl⟩ := args1 (by simpa using hsz)
  obtain ⟨rfl, hus⟩ := rel_ptr (hrel 0 _ v0 rfl rfl)
  obtain ⟨x, e1, q1, f1⟩ := blk_cell H (nm := nm) (i := 0) (j := off) hb rfl he
  obtain rfl := rel_int q1
  refine (i64_load _ n w e1).mono ?_
  rintro e w' ⟨rfl, rfl⟩
  exact ⟨_, E, .int .i64 n, S, rfl, .refl E, H, hW, fun _ _ _ => rfl, fun s hs => ⟨.inl hs, hu s hs⟩, Nat.le_refl _, rfl, .int _ _, hk⟩
theorem add64_v (nm st sz off : Nat) (e : AV) (n s : Int) {S : St} {k : AV → St → Prop} {u : Dep k} (hb : S.blk nm = some ⟨st, sz, [e]⟩) (hz : sz ≠ 0) (he : e.cells[off]? = some (.int .i64 n)) (hs : IntKind.i64.wrap (n + 1) = s)
    (hk : k (.int .i64 s) ⟨S.t, upd S.blk nm (some ⟨st, sz, [setCells e off [.int .i64 s]]⟩), S.tok, S.clk⟩) :
    CallG Tryz.prog (.fn 59 []) [.ptr nm st sz 0 off, .int .i64 1] S k u := by
  refine ⟨59, [], rfl, entersF 59 _ Tryz.func59 (by kernel_rfl) (by kernel_rfl), fun E B W w args H hW hB hu hsz hrel => ?_⟩
  obtain ⟨v0, v1, rfl⟩ := args2 (by simpa using hsz)
  obtain ⟨rfl, hus⟩ := rel_ptr (hrel 0 _ v0 rfl rfl)
  obtain rfl := rel_int (hrel 1 _ v1 rfl rfl)
  obtain ⟨x, e1, q1, f1⟩ := blk_cell H (nm := nm) (i := 0) (j := off) hb rfl he
  obtain rfl := rel_int q1
  obtain ⟨H1, W1⟩ := blk_setCell H hW (nm := nm) (st := st) (sz := sz) (es := [e]) (e := e) (i := 0) (off := off) (x := .int .i64 s) (vx := .int .i64 s) (.int _ _) (by simp [getB, St.h, hb, hz]) rfl rfl (List.getElem?_eq_some_iff.1 he).1
  refine (i64_add _ n s w e1 f1 hs).mono ?_
  rintro e' w' ⟨rfl, rfl⟩
  exact ⟨_, E, .int .i64 s, ⟨S.t, upd S.blk nm (some ⟨st, sz, [setCells e off [.int .i64 s]]⟩), S.tok, S.clk⟩, rfl, .refl E, H1, W1, fun _ _ _ => rfl, fun s hs => ⟨.inl hs, hu s hs⟩, Nat.le_refl _, rfl, .int _ _, hk⟩
set_option maxRecDepth 100000 in
set_option maxHeartbeats 1600000 in
theorem asked_again (nm st : Nat) (cs hs : List AV) (c0 : cs[0]? = some (.lst 2 hs)) (d : Int) (hd : ¬ d = 0) (c4 : cs[4]? = some (.int .u32 d)) (n : Int) {S : St} {k : AV → St → Prop} {u : Dep k} (hb : S.blk nm = some ⟨st, 12, [.agg cs]⟩)
    (hk : k (.bool (decide (0 ≤ n) && decide (n < hs.length))) S) : CallG Tryz.prog (.fn 27 []) [.ptr nm st 12 0 0, .int .i64 n] S k u := by
  refine ⟨27, [], rfl, enters88, fun E B W w args H hW hB hu hsz hrel => ?_⟩
  obtain ⟨v0, v1, rfl⟩ := args2 (by simpa using hsz)
  obtain ⟨rfl, hus⟩ := rel_ptr (hrel 0 _ v0 rfl rfl)
  obtain rfl := rel_int (hrel 1 _ v1 rfl rfl)
  obtain ⟨u4, e4, q4, f4⟩ := blk_cell H (nm := nm) (i := 0) (j := 4) hb rfl c4
  obtain ⟨u0, e0, q0, f0⟩ := blk_cell H (nm := nm) (i := 0) (j := 0) hb rfl c0
  obtain rfl := rel_int q4
  obtain ⟨sl, cap, rfl⟩ := rel_lst q0
  simp only [Nat.zero_mul, Nat.add_zero] at *
  have hmf : ∀ (fn : Fn) (first cap : Array Value) (w : World), (Instr.makeFunc fn first cap).run Tryz.prog w = .ok (.func fn first cap) w := fun _ _ _ _ => rfl
  go_enter Tryz.func27, Tryz.ntmps27
  go_wp2_with (go_at_call 41; refine (once_done _ d hd _ _ e4).mono ?_; rintro e w' ⟨rfl, rfl⟩)
  · go_ret
    refine ⟨_, E, .bool (decide (n < hs.length)), S, rfl, .refl E, H, hW, fun _ _ _ => rfl, fun s hs => ⟨.inl hs, hu s hs⟩, Nat.le_refl _, rfl, .bool _, ?_⟩
    have h0 : 0 ≤ n := by omega
    simpa [h0] using hk
  · go_ret
    refine ⟨_, rfl, E, .refl E, .bool false, S, H, hW, fun _ _ _ => rfl, fun s hs => ⟨.inl hs, hu s hs⟩, Nat.le_refl _, rfl, .bool _, ?_⟩
    have h0 : ¬ 0 ≤ n := by omega
    simpa [h0] using hk

end Go.Gv
