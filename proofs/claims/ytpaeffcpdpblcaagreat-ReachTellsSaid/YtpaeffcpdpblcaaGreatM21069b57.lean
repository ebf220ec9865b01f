/- Texts of this proof, one behind the other. What is proved, and on which conditions, stands ahead of each. -/
import Derived.Test.YtpaeffcpdpblcaaGreatM20044648
import Derived.Test.YtpaeffcpdpblcaaGreatProg

/- A call under other names for what the caller knows; a call that writes one block of closed values, as a call of a drawn region; a contract from a call's law. No condition beyond those that each law names. -/
set_option linter.unusedVariables false
set_option linter.unusedSimpArgs false
namespace Go.Gv
open Go.RowKit

/-- All names raised. -/
def Hp.up (M : Nat) (h : Hp) : Hp := ⟨fun n => if M ≤ n then h.blk (n - M) else none, fun n => if M ≤ n then h.tok (n - M) else none⟩
/-- .. and lowered. -/
def Hp.down (M : Nat) (h : Hp) : Hp := ⟨fun n => h.blk (n + M), fun n => h.tok (n + M)⟩
theorem Hp.up_blk {M : Nat} {h : Hp} {n : Nat} {b : Blk} (q : (h.up M).blk n = some b) : M ≤ n ∧ h.blk (n - M) = some b := by
  simp only [Hp.up] at q
  split at q
  · rename_i h1; exact ⟨h1, q⟩
  · cases q
theorem Hp.up_tok {M : Nat} {h : Hp} {n : Nat} {t : Tok} (q : (h.up M).tok n = some t) : M ≤ n ∧ h.tok (n - M) = some t := by
  simp only [Hp.up] at q
  split at q
  · rename_i h1; exact ⟨h1, q⟩
  · cases q
theorem Hp.up_get_blk (M : Nat) (h : Hp) (n : Nat) : (h.up M).blk (n + M) = h.blk n := by
  show (if M ≤ n + M then h.blk (n + M - M) else none) = h.blk n
  rw [if_pos (Nat.le_add_left _ _), Nat.add_sub_cancel]
theorem Hp.up_get_tok (M : Nat) (h : Hp) (n : Nat) : (h.up M).tok (n + M) = h.tok n := by
  show (if M ≤ n + M then h.tok (n + M - M) else none) = h.tok n
  rw [if_pos (Nat.le_add_left _ _), Nat.add_sub_cancel]
theorem HConc.up {E : Env} {B : Nat} {h : Hp} {w : World} (M : Nat) (H : HConc E B h w) : HConc E B (h.up M) w := by
  refine ⟨H.K, ?_, ?_, ?_, ?_, ?_, ?_, ?_⟩
  · exact fun n b q => H.bu _ b (Hp.up_blk q).2
  · exact fun n b q => H.bk _ b (Hp.up_blk q).2
  · exact fun n t q => H.tu _ t (Hp.up_tok q).2
  · exact fun n t q => H.tk _ t (Hp.up_tok q).2
  · intro n n' b b' hn q q'
    obtain ⟨a1, a2⟩ := Hp.up_blk q
    obtain ⟨b1, b2⟩ := Hp.up_blk q'
    exact H.bb _ _ b b' (by omega) a2 b2
  · exact fun n n' b t q q' => H.bt _ _ b t (Hp.up_blk q).2 (Hp.up_tok q').2
  · intro n n' t t' g hn q q' hg
    obtain ⟨a1, a2⟩ := Hp.up_tok q
    obtain ⟨b1, b2⟩ := Hp.up_tok q'
    exact H.tt _ _ t t' g (by omega) a2 b2 hg
theorem HConc.down {E : Env} {B : Nat} {h : Hp} {w : World} (M : Nat) (H : HConc E B h w) : HConc E B (h.down M) w := by
  refine ⟨H.K, ?_, ?_, ?_, ?_, ?_, ?_, ?_⟩
  · exact fun n b q => H.bu _ b q
  · exact fun n b q => H.bk _ b q
  · exact fun n t q => H.tu _ t q
  · exact fun n t q => H.tk _ t q
  · exact fun n n' b b' hn q q' => H.bb _ _ b b' (by omega) q q'
  · exact fun n n' b t q q' => H.bt _ _ b t q q'
  · exact fun n n' t t' g hn q q' hg => H.tt _ _ t t' g (by omega) q q' hg
def upA (M : Nat) : AV → AV
  | .ptr nm st sz i off => .ptr (nm + M) st sz i off
  | v => v
theorem Rel.upA {E : Env} {y : AV} {u : Value} (M : Nat) (h : Rel E y u) : Rel E (Go.Gv.upA M y) u := by
  cases y with
  | ptr nm st sz i off => cases h with | ptr _ _ _ _ _ hu => exact .ptr _ st sz i off hu
  | _ => exact h
theorem CallP.up {P : Program} {f : FuncId} {vals vals' : List AV} {T : St} {k : AV → St → Prop} (M : Nat) (hv : vals' = vals.map (Go.Gv.upA M)) (h : CallP P (.fn f []) vals' ⟨T.t, (T.h.up M).blk, (T.h.up M).tok, T.clk⟩ k) :
    CallP P (.fn f []) vals T fun r S => ∃ S', k r S' ∧ S.blk = (fun n => S'.blk (n + M)) ∧ S.tok = (fun n => S'.tok (n + M)) ∧ S.t = T.t := by
  subst hv
  obtain ⟨g, caps, h1, h2, h3⟩ := h
  cases h1
  refine ⟨f, [], rfl, h2, fun E B W w args H hW hB hu hsz hrel => (h3 E B W w args (H.up M) hW hB hu (by simpa using hsz) ?_).mono ?_⟩
  · intro j y u hy hu'
    simp only [List.append_nil, List.getElem?_map, Option.map_eq_some_iff] at hy
    obtain ⟨x, hx, rfl⟩ := hy
    exact (hrel j x u (by simpa using hx) hu').upA M
  · rintro e w' ⟨v, E', r, S', a1, a2, a3, a4, a5, a6, a7, a8, a9, a10⟩
    exact ⟨v, E', r, ⟨T.t, fun n => S'.blk (n + M), fun n => S'.tok (n + M), S'.clk⟩, a1, a2, a3.down M, a4, a5, a6, a7, rfl, a9, S', a10, rfl, rfl, rfl⟩

/-- A call whose outcome is closed, and that writes one block, of which all is closed. -/
theorem CallP.localizeW {P : Program} {fv : AV} {vals : List AV} {T : St} {k0 : AV → St → Prop} (h : CallP P fv vals T k0) (r0 : AV) (h1 : r0.cl1 = true) (nm st sz : Nat) (es0 es : List AV) (hsz0 : sz ≠ 0) (hT : T.blk nm = some ⟨st, sz, es0⟩)
    (hcl : ∀ e ∈ es, ∀ c ∈ e.cells, c.cl1 = true)
    (hk : ∀ r S, k0 r S → (∀ (E : Env) (v : Value), Rel E r v → Rel E r0 v) ∧ S.blk nm = some ⟨st, sz, es⟩ ∧ (∀ n, n ≠ nm → S.blk n = T.blk n) ∧ (∀ n, n ≠ nm → S.tok n = T.tok n)) :
    CallP P fv vals T fun r S => r = r0 ∧ S = ⟨T.t, upd T.blk nm (some ⟨st, sz, es⟩), upd T.tok nm none, T.clk⟩ := by
  obtain ⟨f, caps, q1, q2, q3⟩ := h
  refine ⟨f, caps, q1, q2, fun E B W w args H hW hB hu hsz hrel => (q3 E B W w args H hW hB hu hsz hrel).mono ?_⟩
  rintro e w' ⟨v, E', r, S', rfl, a2, a3, a4, a5, a6, a7, a8, a9, a10⟩
  obtain ⟨b1, b0, b2, b3⟩ := hk r S' a10
  have hcell : ∀ b o u, ({ E' with u := E.u } : Env).K b o = some u → w'.cell? ⟨b, o, none⟩ = some u := a3.K
  have hS : ∀ n b, upd T.blk nm (some ⟨st, sz, es⟩) n = some b → S'.blk n = some b := by
    intro n b hb
    simp only [upd] at hb
    split at hb
    · rename_i e; cases hb; rw [e]; exact b0
    · rename_i e; rw [b2 n e]; exact hb
  have hU : ∀ n b, upd T.blk nm (some ⟨st, sz, es⟩) n = some b → E.u b.st := by
    intro n b hb
    simp only [upd] at hb
    split at hb
    · cases hb; have q := H.bu nm ⟨st, sz, es0⟩ hT; exact q
    · exact H.bu n b hb
  have hTt : ∀ n t, upd T.tok nm none n = some t → n ≠ nm ∧ T.tok n = some t := by
    intro n t ht
    simp only [upd] at ht
    split at ht
    · cases ht
    · rename_i e; exact ⟨e, ht⟩
  have hSt : ∀ n t, upd T.tok nm none n = some t → S'.tok n = some t := fun n t ht => by rw [b3 n (hTt n t ht).1]; exact (hTt n t ht).2
  refine ⟨v, { E' with u := E.u }, r0, ⟨T.t, upd T.blk nm (some ⟨st, sz, es⟩), upd T.tok nm none, T.clk⟩, rfl, ⟨a2.K, a2.m, a2.hd, a2.cp, fun s hs => hs⟩, ⟨hcell, hU, ?_, fun n t ht => H.tu n t (hTt n t ht).2, ?_, ?_, ?_, ?_⟩, a4, a5, fun s hs => ⟨.inl hs, hu s hs⟩, Nat.le_refl _, rfl, ?_, rfl, rfl⟩
  · intro n b hb
    have B' := a3.bk n b (hS n b hb)
    replace hb : upd T.blk nm (some ⟨st, sz, es⟩) n = some b := hb
    simp only [upd] at hb
    split at hb
    · cases hb
      have R := B'.r hsz0
      obtain ⟨cur, ty, c1, c2, c3⟩ := R.row
      refine .row hsz0 ⟨R.base, R.el, R.len, ⟨cur, ty, c1, c2, fun i x hx j y hy => ?_⟩, R.noK⟩
      obtain ⟨u, g1, g2⟩ := c3 i x hx j y hy
      exact ⟨u, g1, Rel.of_cl1 (E := E') (E' := { E' with u := E.u }) (fun _ _ _ q => q) g2 (hcl x (List.mem_of_getElem? hx) y (List.mem_of_getElem? hy))⟩
    · have B0 := H.bk n b hb
      cases B' with
      | row h0 R =>
        have R0 := B0.r h0
        obtain ⟨cur, ty, c1, c2, c3⟩ := R.row
        obtain ⟨_, _, _, _, d3⟩ := R0.row
        refine .row h0 ⟨R.base, R.el, R.len, ⟨cur, ty, c1, c2, fun i x hx j y hy => ?_⟩, R.noK⟩
        obtain ⟨u, g1, g2⟩ := c3 i x hx j y hy
        obtain ⟨u0, _, g3⟩ := d3 i x hx j y hy
        exact ⟨u, g1, g2.narrow g3⟩
      | map h0 M =>
        obtain ⟨arr, c, c1, c2⟩ := M.mp
        obtain ⟨st, sz, es⟩ := b
        simp only at h0
        subst h0
        obtain ⟨arr0, c0, _, d2⟩ := B0.mp.mp
        exact .map rfl ⟨M.base, ⟨arr, c, c1, c2.narrow d2⟩, M.noK⟩
  · exact fun n t ht => a3.tk n t (hSt n t ht)
  · exact fun n n' b b' hn hb hb' => a3.bb n n' b b' hn (hS n b hb) (hS n' b' hb')
  · exact fun n n' b t hb ht => a3.bt n n' b t (hS n b hb) (hSt n' t ht)
  · exact fun n n' t t' g hn ht ht' hg => a3.tt n n' t t' g hn (hSt n t ht) (hSt n' t' ht') hg
  · exact Rel.of_cl1 (E := E') (E' := { E' with u := E.u }) (fun _ _ _ q => q) (b1 E' v a9) h1

/-- A contract of a function without arguments that answers yes or no, from its law as a call. -/
theorem pc_of_callB {P : Program} {f : FuncId} {b : Bool} (h : CallP P (.fn f []) [] ⟨fun _ => .junk, fun _ => none, fun _ => none, 0⟩ fun r _ => r = .bool b) : PC P f [] (.bool b) := by
  obtain ⟨g, caps, h1, h2, h3⟩ := h
  cases h1
  refine ⟨h2, fun K w vs hK hsz hrel => ?_⟩
  refine (h3 (envK K) w.heap.size w w vs ⟨hK, fun _ _ q => (by cases q), fun _ _ q => (by cases q), fun _ _ q => (by cases q), fun _ _ q => (by cases q), fun _ _ _ _ _ q => (by cases q), fun _ _ _ _ q => (by cases q), fun _ _ _ _ _ _ q => (by cases q)⟩ (Below.refl _ _) (Nat.le_refl _) (fun _ q => q.elim) (by simpa using hsz) (fun j y u hy => by simp at hy)).mono ?_
  rintro e w' ⟨v, E', r, S', rfl, _, _, a4, _, _, _, _, a9, rfl⟩
  refine ⟨v, rfl, a4, ?_⟩
  cases a9
  exact .bool _
end Go.Gv

/- The law ReachTells answers true, for all programs. No condition. -/
set_option linter.unusedVariables false
set_option linter.unusedSimpArgs false
namespace Go.Gv
open Go.Proofs

def rtells_r0 : List AI := [⟨(some 2), none, (.op (.box 195002 4 (.t 0)))⟩, ⟨(some 4), none, (.op (.mv (.c (.bool false))))⟩]
def rtells_r1 : List AI := [⟨(some 7), none, (.op (.load (some 4) (.t 2)))⟩, ⟨(some 8), none, (.call (.c (.fn 5 [])) [(.t 7)])⟩, ⟨(some 9), none, (.op (.not (.t 8)))⟩]
def rtells_r2 : List AI := [⟨(some 10), none, (.call (.c (.fn 6 [])) [])⟩, ⟨(some 4), none, (.op (.mv (.t 10)))⟩]
def rtells_r3 : List AI := [⟨(some 12), none, (.op (.load (some 4) (.t 2)))⟩, ⟨(some 13), none, (.call (.c (.fn 7 [])) [(.t 12)])⟩, ⟨(some 11), none, (.op (.mv (.t 13)))⟩, ⟨(some 14), none, (.op (.ext (.t 11) 0))⟩, ⟨(some 15), none, (.op (.ext (.t 11) 1))⟩, ⟨(some 5), none, (.op (.mv (.t 14)))⟩, ⟨(some 6), none, (.op (.mv (.t 15)))⟩]
def rtells_r4 : List AI := [⟨(some 16), none, (.op (.load (some 4) (.t 2)))⟩, ⟨(some 17), none, (.call (.c (.fn 8 [])) [(.t 16)])⟩, ⟨(some 18), none, (.op (.ibin .neq (.t 17) (.c (.int .i64 0))))⟩]
def rtells_r5 : List AI := [⟨(some 19), none, (.op (.mv (.t 6)))⟩, ⟨(some 20), none, (.op (.load (some 4) (.t 2)))⟩, ⟨(some 21), none, (.call (.c (.fn 8 [])) [(.t 20)])⟩, ⟨(some 22), none, (.op (.ibin .eql (.t 19) (.t 21)))⟩, ⟨(some 23), none, (.op (.mv (.t 22)))⟩, ⟨(some 24), (some (23, true)), (.op (.mv (.t 5)))⟩, ⟨(some 25), (some (23, true)), (.nq 1 false (.t 24))⟩, ⟨(some 26), none, (.op (.pick (.t 23) (.t 25) (.c (.bool false))))⟩, ⟨(some 27), none, (.op (.mv (.t 26)))⟩, ⟨(some 28), (some (27, true)), (.call (.c (.fn 6 [])) [])⟩, ⟨(some 29), none, (.op (.pick (.t 27) (.t 28) (.c (.bool false))))⟩, ⟨(some 4), none, (.op (.mv (.t 29)))⟩]
def rtells_r6 : List AI := [⟨(some 30), none, (.op (.mv (.t 6)))⟩, ⟨(some 31), none, (.op (.ibin .neq (.t 30) (.c (.int .i64 0))))⟩, ⟨(some 32), none, (.op (.mv (.t 31)))⟩, ⟨(some 33), (some (32, false)), (.op (.mv (.t 5)))⟩, ⟨(some 34), (some (32, false)), (.nq 1 false (.t 33))⟩, ⟨(some 35), none, (.op (.pick (.t 32) (.c (.bool true)) (.t 34)))⟩]
def rtells_r7 : List AI := [⟨(some 4), none, (.op (.mv (.c (.bool false))))⟩]
def rtells_r8 : List AI := [⟨(some 36), none, (.op (.mv (.t 5)))⟩, ⟨(some 37), none, (.op (.mv (.t 1)))⟩, ⟨(some 38), none, (.call (.c (.fn 10 [])) [(.t 36), (.t 37)])⟩, ⟨(some 39), none, (.op (.load (some 4) (.t 2)))⟩, ⟨(some 40), none, (.op (.mv (.t 1)))⟩, ⟨(some 41), none, (.call (.c (.fn 11 [])) [(.t 39), (.t 40)])⟩, ⟨(some 42), none, (.call (.c (.fn 9 [])) [(.t 38), (.t 41)])⟩, ⟨(some 43), none, (.op (.mv (.t 42)))⟩, ⟨(some 44), (some (43, true)), (.op (.mv (.t 5)))⟩, ⟨(some 45), (some (43, true)), (.op (.mv (.t 1)))⟩, ⟨(some 46), (some (43, true)), (.call (.c (.fn 12 [])) [(.t 44), (.t 45)])⟩, ⟨(some 47), (some (43, true)), (.op (.load (some 4) (.t 2)))⟩, ⟨(some 48), (some (43, true)), (.op (.mv (.t 1)))⟩, ⟨(some 49), (some (43, true)), (.call (.c (.fn 13 [])) [(.t 47), (.t 48)])⟩, ⟨(some 50), (some (43, true)), (.call (.c (.fn 9 [])) [(.t 46), (.t 49)])⟩, ⟨(some 51), none, (.op (.pick (.t 43) (.t 50) (.c (.bool false))))⟩, ⟨(some 52), none, (.op (.mv (.t 51)))⟩, ⟨(some 53), (some (52, true)), (.op (.mv (.t 5)))⟩, ⟨(some 54), (some (52, true)), (.call (.c (.fn 14 [])) [(.t 53)])⟩, ⟨(some 55), (some (52, true)), (.op (.load (some 4) (.t 2)))⟩, ⟨(some 56), (some (52, true)), (.call (.c (.fn 15 [])) [(.t 55)])⟩, ⟨(some 57), (some (52, true)), (.call (.c (.fn 9 [])) [(.t 54), (.t 56)])⟩, ⟨(some 58), none, (.op (.pick (.t 52) (.t 57) (.c (.bool false))))⟩, ⟨(some 59), none, (.op (.mv (.t 58)))⟩, ⟨(some 60), (some (59, true)), (.op (.mv (.t 5)))⟩, ⟨(some 61), (some (59, true)), (.op (.mv (.t 1)))⟩, ⟨(some 62), (some (59, true)), (.call (.c (.fn 16 [])) [(.t 60), (.t 61)])⟩, ⟨(some 63), (some (59, true)), (.op (.load (some 4) (.t 2)))⟩, ⟨(some 64), (some (59, true)), (.op (.mv (.t 1)))⟩, ⟨(some 65), (some (59, true)), (.call (.c (.fn 17 [])) [(.t 63), (.t 64)])⟩, ⟨(some 66), (some (59, true)), (.op (.eqv false (.t 62) (.t 65)))⟩, ⟨(some 67), none, (.op (.pick (.t 59) (.t 66) (.c (.bool false))))⟩, ⟨(some 68), none, (.op (.mv (.t 67)))⟩, ⟨(some 69), (some (68, true)), (.call (.c (.fn 6 [])) [])⟩, ⟨(some 70), none, (.op (.pick (.t 68) (.t 69) (.c (.bool false))))⟩, ⟨(some 4), none, (.op (.mv (.t 70)))⟩]
def rtells_p8 : List (List Nat) := [[], [], [0, 1], [], [], [3, 4, 2, 0, 1], [2, 5, 0, 1, 3, 4], [6, 2, 5, 0, 1, 3, 4], [7, 6, 2, 5, 0, 1, 3, 4], [7, 6, 2, 5, 0, 1, 3, 4], [8, 9, 7, 6, 2, 5, 0, 1, 3, 4], [7, 6, 2, 5, 0, 1, 3, 4], [7, 6, 2, 5, 0, 1, 3, 4], [11, 12, 10, 7, 6, 2, 5, 0, 1, 3, 4, 8, 9], [10, 13, 7, 8, 9, 6, 2, 5, 0, 1, 3, 4, 11, 12], [7, 14, 6, 2, 5, 0, 1, 3, 4, 10, 13, 8, 9, 11, 12], [15, 14, 7, 6, 2, 5, 0, 1, 3, 4, 10, 13, 8, 9, 11, 12], [16, 15, 14, 7, 6, 2, 5, 0, 1, 3, 4, 10, 13, 8, 9, 11, 12], [17, 16, 15, 14, 7, 6, 2, 5, 0, 1, 3, 4, 10, 13, 8, 9, 11, 12], [16, 15, 14, 7, 6, 2, 5, 0, 1, 3, 4, 10, 13, 8, 9, 11, 12], [19, 18, 16, 15, 14, 7, 6, 2, 5, 0, 1, 3, 4, 10, 13, 8, 9, 11, 12, 17], [18, 20, 16, 17, 15, 14, 7, 6, 2, 5, 0, 1, 3, 4, 10, 13, 8, 9, 11, 12, 19], [16, 21, 15, 14, 7, 6, 2, 5, 0, 1, 3, 4, 10, 13, 8, 9, 11, 12, 18, 20, 17, 19], [22, 21, 16, 15, 14, 7, 6, 2, 5, 0, 1, 3, 4, 10, 13, 8, 9, 11, 12, 18, 20, 17, 19], [23, 22, 21, 16, 15, 14, 7, 6, 2, 5, 0, 1, 3, 4, 10, 13, 8, 9, 11, 12, 18, 20, 17, 19], [23, 22, 21, 16, 15, 14, 7, 6, 2, 5, 0, 1, 3, 4, 10, 13, 8, 9, 11, 12, 18, 20, 17, 19], [24, 25, 23, 22, 21, 16, 15, 14, 7, 6, 2, 5, 0, 1, 3, 4, 10, 13, 8, 9, 11, 12, 18, 20, 17, 19], [23, 22, 21, 16, 15, 14, 7, 6, 2, 5, 0, 1, 3, 4, 10, 13, 8, 9, 11, 12, 18, 20, 17, 19], [23, 22, 21, 16, 15, 14, 7, 6, 2, 5, 0, 1, 3, 4, 10, 13, 8, 9, 11, 12, 18, 20, 17, 19], [27, 28, 26, 23, 22, 21, 16, 15, 14, 7, 6, 2, 5, 0, 1, 3, 4, 10, 13, 8, 9, 11, 12, 18, 20, 17, 19, 24, 25], [26, 29, 23, 24, 25, 22, 21, 16, 15, 14, 7, 6, 2, 5, 0, 1, 3, 4, 10, 13, 8, 9, 11, 12, 18, 20, 17, 19, 27, 28], [23, 30, 22, 21, 16, 15, 14, 7, 6, 2, 5, 0, 1, 3, 4, 10, 13, 8, 9, 11, 12, 18, 20, 17, 19, 26, 29, 24, 25, 27, 28], [31, 29, 23, 30, 22, 21, 16, 15, 14, 7, 6, 2, 5, 0, 1, 3, 4, 10, 13, 8, 9, 11, 12, 18, 20, 17, 19, 26, 24, 25, 27, 28], [32, 31, 29, 23, 30, 22, 21, 16, 15, 14, 7, 6, 2, 5, 0, 1, 3, 4, 10, 13, 8, 9, 11, 12, 18, 20, 17, 19, 26, 24, 25, 27, 28], [32, 33, 31, 29, 23, 30, 22, 21, 16, 15, 14, 7, 6, 2, 5, 0, 1, 3, 4, 10, 13, 8, 9, 11, 12, 18, 20, 17, 19, 26, 24, 25, 27, 28], [34, 33, 0, 1, 2, 3, 4, 5, 6, 7, 8, 9, 10, 11, 12, 13, 14, 15, 16, 17, 18, 19, 20, 21, 22, 23, 24, 25, 26, 27, 28, 29, 30, 31, 32]]
def rtells_c : AC := (.seq (.reg rtells_r0) (.seq (.seq (.reg rtells_r1) (.cond (.t 9) (.seq (.reg rtells_r2) .ret) .skip)) (.seq (.reg rtells_r3) (.seq (.seq (.reg rtells_r4) (.cond (.t 18) (.seq (.reg rtells_r5) .ret) .skip)) (.seq (.seq (.reg rtells_r6) (.cond (.t 35) (.seq (.reg rtells_r7) .ret) .skip)) (.seq (.regd rtells_r8 rtells_p8) .ret))))))
def rtells_res : List ARes := [(.tmp 4)]
set_option maxRecDepth 100000 in
theorem rtells_get : getF Tryz.prog 3 195000 [] = some ("gavotte/gavottelaw20.ReachTells", 71, rtells_c, rtells_res) := by kernel_rfl
attribute [simp] rtells_r0 rtells_r1 rtells_r2 rtells_r3 rtells_r4 rtells_r5 rtells_r6 rtells_r7 rtells_r8 rtells_p8 rtells_res


theorem LR_up {M : Nat} (hM : 1000160000 ≤ M) (n : Nat) : LR (n + M) = false := by
  unfold LR
  rw [decide_eq_false (show ¬ n + M < 99001 by omega), decide_eq_false (show ¬ n + M < 160000 by omega), decide_eq_false (show ¬ n + M < 1000160000 by omega), Bool.and_false, Bool.and_false, Bool.and_false]
  rfl
theorem LN_up {M : Nat} (hM : 1000160000 ≤ M) {nm m : Nat} (h : m ≠ nm) : LN (nm + M) (m + M) = false := by
  unfold LN
  rw [LR_up hM, decide_eq_false (show ¬ m + M = nm + M by omega)]
  rfl
theorem madeC_cl (p : Prg) (a b c : Int) : ∀ e ∈ [AV.agg (madeC p a b c)], ∀ x ∈ e.cells, x.cl1 = true := by
  intro e he x hx
  rw [List.mem_singleton] at he
  subst he
  simp [madeC, planC] at hx
  rcases hx with rfl | rfl | rfl | rfl | rfl | rfl | rfl | rfl | rfl | rfl | rfl | rfl <;> rfl
theorem psends_F (nm st : Nat) (p : Prg) (hp : flowV p = 0) (n : Int) {blk : Nat → Option Blk} (hb : blk nm = some ⟨st, 12, [.agg (planC p 0 0 0 0 .nils .nils .nils .nils)]⟩) :
    LCallP Tryz.prog (.fn 10 []) [.ptr nm st 12 0 0, iv n] blk { v := ints (atI (sndV p) n), wb := [(nm, some ⟨st, 12, [.agg (madeC p 1 0 0)]⟩)], wt := [(nm, none)] } := by
  intro T hT
  have hTb := (hT nm (by simp)).trans hb
  obtain ⟨M, hM⟩ : ∃ M : Nat, 1000160000 ≤ M := ⟨1000160000, Nat.le_refl _⟩
  have h := CallP.up (P := Tryz.prog) (T := T) (vals := [.ptr nm st 12 0 0, iv n]) M rfl
    (psends_v (nm + M) st (LR_up hM nm) p hp n (u := .mk) (S := ⟨T.t, (T.h.up M).blk, (T.h.up M).tok, T.clk⟩)
      (k := fun r S' => r = ints (atI (sndV p) n) ∧ PlanM (nm + M) st p S' ∧ Fh (LN (nm + M)) ⟨T.t, (T.h.up M).blk, (T.h.up M).tok, T.clk⟩ S')
      (.inl ((Hp.up_get_blk _ _ _).trans hTb)) (fun S' hP hF _ _ => ⟨rfl, hP, hF⟩))
  refine (h.localizeW (ints (atI (sndV p) n)) rfl nm st 12 _ _ (by decide) hTb (madeC_cl p 1 0 0) ?_).weaken ?_
  · rintro r S ⟨S', ⟨rfl, hP, hF⟩, e1, e2, e3⟩
    refine ⟨fun _ _ q => q, by rw [e1]; exact hP, fun m hm => ?_, fun m hm => ?_⟩
    · rw [e1]
      show S'.blk (m + M) = T.blk m
      rw [hF.b _ (LN_up hM hm)]
      exact Hp.up_get_blk _ _ _
    · rw [e2]
      show S'.tok (m + M) = T.tok m
      rw [hF.k _ (LN_up hM hm)]
      exact Hp.up_get_tok _ _ _
  · rintro r S ⟨rfl, rfl⟩
    exact ⟨rfl, rfl⟩
theorem psends_M (nm st : Nat) (hnm : LR nm = false) (p : Prg) (hp : flowV p = 0) (n : Int) {blk : Nat → Option Blk} (hb : blk nm = some ⟨st, 12, [.agg (madeC p 1 0 0)]⟩) :
    LCallP Tryz.prog (.fn 10 []) [.ptr nm st 12 0 0, iv n] blk (effL [] [] (ints (atI (sndV p) n))) := by
  refine LCallP.of [] [] _ rfl (fun T hT => ?_)
  have hTb := (hT nm (by simp)).trans hb
  refine psends_v nm st hnm p hp n (u := .mk) (.inr hTb) (fun S' hM hF ht he => ?_)
  obtain ⟨e1, e2⟩ := he hTb
  exact ⟨fun _ _ q => q, fun m _ => by rw [e1], fun m _ => by rw [e2]⟩
theorem preaches_M (nm st : Nat) (hnm : LR nm = false) (p : Prg) (hp : flowV p = 0) (n : Int) {blk : Nat → Option Blk} (hb : blk nm = some ⟨st, 12, [.agg (madeC p 1 0 0)]⟩) :
    LCallP Tryz.prog (.fn 12 []) [.ptr nm st 12 0 0, iv n] blk (effL [] [] (ints (atI (reaV p) n))) := by
  refine LCallP.of [] [] _ rfl (fun T hT => ?_)
  have hTb := (hT nm (by simp)).trans hb
  refine preaches_v nm st hnm p hp n (u := .mk) (.inr hTb) (fun S' hM hF ht he => ?_)
  obtain ⟨e1, e2⟩ := he hTb
  exact ⟨fun _ _ q => q, fun m _ => by rw [e1], fun m _ => by rw [e2]⟩
theorem plive_M (nm st : Nat) (hnm : LR nm = false) (p : Prg) (hp : flowV p = 0) {blk : Nat → Option Blk} (hb : blk nm = some ⟨st, 12, [.agg (madeC p 1 0 0)]⟩) :
    LCallP Tryz.prog (.fn 14 []) [.ptr nm st 12 0 0] blk (effL [] [] (ints (liveP p))) := by
  refine LCallP.of [] [] _ rfl (fun T hT => ?_)
  have hTb := (hT nm (by simp)).trans hb
  refine plive_v nm st hnm p hp (u := .mk) (.inr hTb) (fun S' hM hF ht he => ?_)
  obtain ⟨e1, e2⟩ := he hTb
  exact ⟨fun _ _ q => q, fun m _ => by rw [e1], fun m _ => by rw [e2]⟩
theorem parms_M (nm st : Nat) (hnm : LR nm = false) (p : Prg) (hp : flowV p = 0) (n : Int) {blk : Nat → Option Blk} (hb : blk nm = some ⟨st, 12, [.agg (madeC p 1 0 0)]⟩) :
    LCallP Tryz.prog (.fn 16 []) [.ptr nm st 12 0 0, iv n] blk (effL [] [] (.bool (atB (armsV p) n))) := by
  refine LCallP.of [] [] _ rfl (fun T hT => ?_)
  have hTb := (hT nm (by simp)).trans hb
  refine parms_v nm st hnm p hp n (u := .mk) (.inr hTb) (fun S' hM hF ht he => ?_)
  obtain ⟨e1, e2⟩ := he hTb
  exact ⟨fun _ _ q => q, fun m _ => by rw [e1], fun m _ => by rw [e2]⟩
theorem awake20_pc : PC Tryz.prog 6 [] (.bool true) := pc_of_callB (awake20_v (u := .mk) (fun _ _ _ => rfl))
theorem reachTells_pc (p : Prg) (h : Int) : PC Tryz.prog 3 [p.av, iv h] (.bool true) := by
  refine pc_of_get rtells_get (by simp) _ (by simp) _ ?_
  unfold rtells_c
  simp
  refine call (small_pc p) (by simp) ?_
  simp
  refine split (fun h1 => ?_) (fun h1 => ?_) <;> simp [h1]
  rotate_left
  · refine call awake20_pc (by simp) ?_
    simp
  · obtain ⟨q1, _⟩ := h1
    refine pnew_v p (fun hf S st hP hB hK ht hc => ?_) (fun hf S hB hK ht hc => ?_)
    · have hb2 := hB 195002 (by simp) (by simp)
      have hb2 : S.blk 195002 = some ⟨0, 4, [p.av]⟩ := by rw [hb2]; simp
      simp [ht, hb2]
      refine call (rcflow_pc p (by omega)) (by simp) ?_
      rw [rflow_eq, hf]
      simp [ht]
      refine callL (psends_F 170013 st p hf h hP) ?_
      simp [ht, hb2]
      have b1 := atI_bound (sndV_bound hf) h
      have b2 := atI_bound (reaV_bound hf) h
      have b3 := liveP_len p
      refine calld (r20S_pc p hf h) (by simp [Prg.av]) ?_
      simp [ht, hb2]
      refine calld (aints_pc (atI (sndV p) h) (atI (sndV p) h) (by omega)) (by simp) ?_
      simp [ht, hb2]
      refine callL (preaches_M 170013 st (by decide) p hf h (by simp)) ?_
      simp [ht, hb2]
      refine calld (r20R_pc p hf h) (by simp [Prg.av]) ?_
      simp [ht, hb2]
      refine calld (aints_pc (atI (reaV p) h) (atI (reaV p) h) (by omega)) (by simp) ?_
      simp [ht, hb2]
      refine callL (plive_M 170013 st (by decide) p hf (by simp)) ?_
      simp [ht, hb2]
      refine calld (r20L_pc p hf) (by simp [Prg.av]) ?_
      simp [ht, hb2]
      refine calld (aints_pc (liveP p) (liveP p) (by omega)) (by simp) ?_
      simp [ht, hb2]
      refine callL (parms_M 170013 st (by decide) p hf h (by simp)) ?_
      simp [ht, hb2]
      refine calld (r20A_pc p hf h) (by simp [Prg.av]) ?_
      simp [ht, hb2]
      refine calld awake20_pc (by simp) ?_
      simp [ht, hb2]
    · have hb2 := hB 195002 (by simp)
      have hb2 : S.blk 195002 = some ⟨0, 4, [p.av]⟩ := by rw [hb2]; simp
      simp [ht, hb2]
      refine call (rcflow_pc p (by omega)) (by simp) ?_
      rw [rflow_eq]
      simp [ht, hb2, hf]
      refine call (rcflow_pc p (by omega)) (by simp) ?_
      rw [rflow_eq]
      simp [ht]
      refine call awake20_pc (by simp) ?_
      simp

end Go.Gv
