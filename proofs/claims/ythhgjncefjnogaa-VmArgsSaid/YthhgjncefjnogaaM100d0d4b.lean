/- Texts of this proof, one behind the other. What is proved, and on which conditions, stands ahead of each. -/
import Derived.Test.YthhgjncefjnogaaProg
import Derived.Test.YthhgjncefjnogaaM965de4d

/- What vm's machine does at a send. Conditions: those that the law names. -/
set_option linter.unusedVariables false
set_option linter.unusedSimpArgs false
namespace Go.Gv
open Go.Proofs

def cloneX_r0 : List AI := [⟨(some 2), none, (.op (.mv (.c .nils)))⟩]
def cloneX_r1 : List AI := [⟨(some 3), none, (.op (.mv (.t 0)))⟩, ⟨(some 4), none, (.nq 0 false (.t 3))⟩]
def cloneX_r2 : List AI := [⟨(some 2), none, (.op (.mv (.c .nils)))⟩]
def cloneX_r3 : List AI := [⟨(some 5), none, (.op (.bsl 63005 1 3 0 (.int .i64 0) []))⟩, ⟨(some 6), none, (.op (.mv (.t 0)))⟩, ⟨(some 7), none, (.op (.app 63007 1 3 8 (.t 5) (.t 6)))⟩, ⟨(some 2), none, (.op (.mv (.t 7)))⟩]
def cloneX_c : AC := (.seq (.reg cloneX_r0) (.seq (.seq (.reg cloneX_r1) (.cond (.t 4) (.seq (.reg cloneX_r2) .ret) .skip)) (.seq (.reg cloneX_r3) .ret)))
def cloneX_res : List ARes := [(.tmp 2)]
set_option maxRecDepth 100000 in
theorem cloneX_get : getF Try.prog 63 63000 [] = some ("slices.Clone[[]int,int]", 8, cloneX_c, cloneX_res) := by kernel_rfl
def msend_r0 : List AI := [⟨(some 4), none, (.op (.mv (.c (.int .i64 0))))⟩]
def msend_r1 : List AI := [⟨(some 7), none, (.op (.mv (.t 0)))⟩, ⟨(some 8), none, (.call (.c (.fn 108 [])) [(.t 7)])⟩, ⟨(some 5), none, (.op (.mv (.t 8)))⟩]
def msend_r2 : List AI := [⟨(some 9), none, (.op (.mv (.t 5)))⟩, ⟨(some 10), none, (.op (.ibin .lss (.t 9) (.c (.int .i64 0))))⟩, ⟨(some 11), none, (.op (.mv (.t 10)))⟩, ⟨(some 12), (some (11, false)), (.op (.mv (.t 5)))⟩, ⟨(some 13), (some (11, false)), (.op (.mv (.t 0)))⟩, ⟨(some 14), (some (11, false)), (.op (.nilck (.t 13)))⟩, ⟨(some 15), (some (11, false)), (.op (.fld 0 (.t 14)))⟩, ⟨(some 16), (some (11, false)), (.op (.fld 1 (.t 15)))⟩, ⟨(some 17), (some (11, false)), (.op (.load none (.t 16)))⟩, ⟨(some 18), (some (11, false)), (.op (.len (.t 17)))⟩, ⟨(some 19), (some (11, false)), (.op (.ibin .geq (.t 12) (.t 18)))⟩, ⟨(some 20), none, (.op (.pick (.t 11) (.c (.bool true)) (.t 19)))⟩]
def msend_r3 : List AI := [⟨(some 4), none, (.op (.mv (.c (.int .i64 4))))⟩]
def msend_r4 : List AI := [⟨(some 21), none, (.op (.mv (.t 0)))⟩, ⟨(some 22), none, (.op (.nilck (.t 21)))⟩, ⟨(some 23), none, (.op (.fld 11 (.t 22)))⟩, ⟨(some 24), none, (.op (.load none (.t 23)))⟩, ⟨(some 25), none, (.op (.len (.t 24)))⟩, ⟨(some 26), none, (.op (.mv (.t 0)))⟩, ⟨(some 27), none, (.op (.nilck (.t 26)))⟩, ⟨(some 28), none, (.op (.fld 0 (.t 27)))⟩, ⟨(some 29), none, (.op (.fld 0 (.t 28)))⟩, ⟨(some 30), none, (.op (.load none (.t 29)))⟩, ⟨(some 31), none, (.op (.mv (.t 1)))⟩, ⟨(some 32), none, (.op (.idx 2 (.t 30) (.t 31)))⟩, ⟨(some 33), none, (.op (.fld 0 (.t 32)))⟩, ⟨(some 34), none, (.op (.load none (.t 33)))⟩, ⟨(some 35), none, (.op (.ibin .sub (.t 25) (.t 34)))⟩, ⟨(some 6), none, (.op (.mv (.t 35)))⟩]
def msend_p4 : List (List Nat) := [[], [0], [1, 0], [2, 1, 0], [3, 2, 1, 0], [], [5], [6, 5], [7, 6, 5], [8, 7, 6, 5], [], [9, 10, 8, 7, 6, 5], [11, 9, 10, 8, 7, 6, 5], [12, 11, 9, 10, 8, 7, 6, 5], [4, 13, 3, 2, 1, 0, 12, 11, 9, 10, 8, 7, 6, 5], [14, 0, 1, 2, 3, 4, 5, 6, 7, 8, 9, 10, 11, 12, 13]]
def msend_r5 : List AI := [⟨(some 36), none, (.op (.mv (.t 0)))⟩, ⟨(some 37), none, (.op (.mv (.t 0)))⟩, ⟨(some 38), none, (.op (.nilck (.t 37)))⟩, ⟨(some 39), none, (.op (.fld 12 (.t 38)))⟩, ⟨(some 40), none, (.op (.load none (.t 39)))⟩, ⟨(some 41), none, (.op (.mv (.t 5)))⟩, ⟨(some 42), none, (.op (.mv (.t 1)))⟩, ⟨(some 43), none, (.op (.mv (.t 0)))⟩, ⟨(some 44), none, (.op (.nilck (.t 43)))⟩, ⟨(some 45), none, (.op (.fld 11 (.t 44)))⟩, ⟨(some 46), none, (.op (.load none (.t 45)))⟩, ⟨(some 47), none, (.op (.mv (.t 6)))⟩, ⟨(some 48), none, (.op (.slice (some 1) (.t 46) (some (.t 47)) none))⟩, ⟨(some 49), none, (.call (.c (.fn 63 [])) [(.t 48)])⟩, ⟨(some 50), none, (.op (.build [(.int .i64 0), (.int .i64 0), .nils] [(0, (1, (.t 41))), (1, (1, (.t 42))), (2, (1, (.t 49)))]))⟩, ⟨(some 51), none, (.op (.bsl 110051 3 40 1 (.agg [(.int .i64 0), (.int .i64 0), .nils]) [(0, (.t 50))]))⟩, ⟨(some 52), none, (.op (.app 110052 3 40 40 (.t 40) (.t 51)))⟩, ⟨(some 53), none, (.op (.nilck (.t 36)))⟩, ⟨(some 54), none, (.op (.fld 12 (.t 53)))⟩, ⟨none, none, (.op (.store 1 (.t 54) (.t 52)))⟩]
def msend_p5 : List (List Nat) := [[], [], [1], [2, 1], [3, 2, 1], [], [], [], [7], [8, 7], [9, 8, 7], [], [10, 11, 9, 8, 7], [12, 10, 11, 9, 8, 7], [5, 6, 13, 12, 10, 11, 9, 8, 7], [14, 5, 6, 13, 12, 10, 11, 9, 8, 7], [4, 15, 13, 3, 2, 1, 14, 5, 6, 12, 10, 11, 9, 8, 7], [0, 1, 2, 3, 4, 5, 6, 7, 8, 9, 10, 11, 12, 13, 14, 15, 16], [17, 0, 1, 2, 3, 4, 5, 6, 7, 8, 9, 10, 11, 12, 13, 14, 15, 16], [18, 16, 0, 1, 2, 3, 4, 5, 6, 7, 8, 9, 10, 11, 12, 13, 14, 15, 17]]
def msend_r6 : List AI := [⟨(some 55), none, (.op (.mv (.t 0)))⟩, ⟨(some 56), none, (.op (.mv (.t 0)))⟩, ⟨(some 57), none, (.op (.nilck (.t 56)))⟩, ⟨(some 58), none, (.op (.fld 11 (.t 57)))⟩, ⟨(some 59), none, (.op (.load none (.t 58)))⟩, ⟨(some 60), none, (.op (.mv (.t 6)))⟩, ⟨(some 61), none, (.op (.slice (some 1) (.t 59) none (some (.t 60))))⟩, ⟨(some 62), none, (.op (.nilck (.t 55)))⟩, ⟨(some 63), none, (.op (.fld 11 (.t 62)))⟩, ⟨none, none, (.op (.store 1 (.t 63) (.t 61)))⟩]
def msend_r7 : List AI := [⟨(some 4), none, (.op (.mv (.c (.int .i64 0))))⟩]
def msend_c : AC := (.seq (.reg msend_r0) (.seq (.reg msend_r1) (.seq (.seq (.reg msend_r2) (.cond (.t 20) (.seq (.reg msend_r3) .ret) .skip)) (.seq (.regd msend_r4 msend_p4) (.seq (.regi msend_r5 msend_p5) (.seq (.reg msend_r6) (.seq (.reg msend_r7) .ret)))))))
def msend_res : List ARes := [(.tmp 4)]
set_option maxRecDepth 100000 in
theorem msend_get : getF Try.prog 110 110000 [(2000005, 1)] = some ("(*gavotte/vm.machine).send", 64, msend_c, msend_res) := by kernel_rfl
attribute [simp] cloneX_r0 cloneX_r1 cloneX_r2 cloneX_r3 cloneX_res msend_r0 msend_r1 msend_r2 msend_r3 msend_r4 msend_p4 msend_r5 msend_p5 msend_r6 msend_r7 msend_res

/-- A closed list, told as what is known. -/
def accV : AV → AV
  | .acc _ _ s xs => .lst s xs
  | v => v
def nilV : AV → AV
  | .nils => .lst 1 []
  | v => v
theorem Wkh.accV {c c' : Nat} (hc : c ≤ c') {h h' : Hp} (hb : ∀ n b, h'.blk n = some b → h.blk n = some b) (ht : ∀ n t, h'.tok n = some t → h.tok n = some t) : Wkh c c' h h' Go.Gv.accV :=
  ⟨hc, fun E B w H hu => ⟨E, .refl E, H.sub hb ht, fun _ _ _ => rfl, fun _ h => h, fun x v hr => by
    cases x with
    | acc nm st s xs => cases hr with | acc _ _ _ _ _ _ _ hl => exact hl
    | _ => exact hr⟩⟩
theorem Wkh.nilV {c c' : Nat} (hc : c ≤ c') {h h' : Hp} (hb : ∀ n b, h'.blk n = some b → h.blk n = some b) (ht : ∀ n t, h'.tok n = some t → h.tok n = some t) : Wkh c c' h h' Go.Gv.nilV :=
  ⟨hc, fun E B w H hu => ⟨E, .refl E, H.sub hb ht, fun _ _ _ => rfl, fun _ h => h, fun x v hr => by
    cases x with
    | nils => rw [hr.nils_inv]; exact .lst0 _ _ _
    | _ => exact hr⟩⟩
theorem clone_x (nm st off len : Nat) (ys : List Int) {S : St} {k : AV → St → Prop} {u : Dep k} (hl : listOf S.blk 1 (.sl nm st 1 off len) = some (ys.map iv)) (hn : ys.length ≤ 1000)
    (hk : ∀ c, S.clk ≤ c → k (.lst 1 (ys.map iv)) ⟨S.t, S.blk, upd (upd S.tok 63005 none) 63007 none, c⟩) : CallG Try.prog (.fn 63 []) [.sl nm st 1 off len] S k u := by
  refine CallP.told (k' := fun r S' => (r = .nils ∧ ys = [] ∧ S'.t = S.t ∧ S'.blk = S.blk ∧ S'.tok = S.tok ∧ S.clk ≤ S'.clk) ∨ ∃ s', r = .acc 63007 s' 1 (ys.map iv) ∧ S'.t = S.t ∧ S'.blk = S.blk ∧ (∀ n, n ≠ 63007 → n ≠ 63005 → S'.tok n = S.tok n) ∧ S.clk ≤ S'.clk) ?_ ?_
  · show CallG Try.prog _ _ S _ .mk
    refine callV cloneX_get (by simp) (by simp) ?_
    unfold cloneX_c
    by_cases h0 : 0 < len
    · simp [h0, hl, show ys.length * 8 ≤ 140737488355328 by omega]
      refine ⟨?_, by omega⟩
      intro n h1 h2
      simp [upd, h1, h2]
    · obtain rfl : len = 0 := by omega
      have hy : ys = [] := by
        unfold listOf at hl
        simp [Option.bind_eq_some_iff] at hl
        obtain ⟨_, _, _, q⟩ := hl
        simpa using q
      subst hy
      simp
      refine opG_none _ _ ?_ ?_
      · simp [hl]
        try omega
      · simp [hl]
        refine ⟨fun n h1 h2 => ?_, by omega⟩
        simp [upd, h1, h2]
  · rintro r S' (⟨rfl, rfl, e1, e2, e3, e4⟩ | ⟨s', rfl, e1, e2, e3, e4⟩)
    · refine ⟨⟨S.t, S.blk, upd (upd S.tok 63005 none) 63007 none, S'.clk⟩, nilV, Wkh.nilV (Nat.le_refl _) ?_ ?_, ?_, hk S'.clk e4⟩
      · intro n b hb; simpa [St.h, e2] using hb
      · intro n t ht
        simp only [St.h, upd] at ht ⊢
        rw [e3]
        split at ht
        · cases ht
        · split at ht
          · cases ht
          · exact ht
      · exact e1.symm
    · refine ⟨⟨S.t, S.blk, upd (upd S.tok 63005 none) 63007 none, S'.clk⟩, accV, Wkh.accV (Nat.le_refl _) ?_ ?_, ?_, hk S'.clk e4⟩
      · intro n b hb; simpa [St.h, e2] using hb
      · intro n t ht
        simp only [St.h, upd] at ht ⊢
        split at ht
        · cases ht
        · split at ht
          · cases ht
          · rw [e3 n ‹_› ‹_›]; exact ht
      · exact e1.symm
theorem send_v (F : Fx) (st : Nat) (m : Mach) (hd : Int) (xs bs : List Int) (to : Int) (hx : m.st = xs ++ bs ++ [to]) (h0 : 0 ≤ hd) (x : Hnd) (hh : F.p.hs[hd.toNat]? = some x) (hargs : x.args = bs.length) (hl : (xs ++ bs).length < 900) (hnl : m.notes.length < 1000) {S : St} {k : AV → St → Prop} {u : Dep k} (h : MS F st m S)
    (hk1 : (to < 0 ∨ to ≥ F.p.as.length) → ∀ S', Fr Lm S S' → MS F st { m with st := xs ++ bs } S' → k (iv 4) S')
    (hk2 : ¬ (to < 0 ∨ to ≥ F.p.as.length) → ∀ S', Fr Lm S S' → MS F st { m with st := xs, notes := m.notes ++ [⟨to, hd, bs⟩] } S' → k (iv 0) S') : CallG Try.prog (.fn 110 []) [.ptr 84026 st 14 0 0, iv hd] S k u := by
  refine callV msend_get (by simp) (by simp) ?_
  unfold msend_c
  simp
  by_cases hlost : to < 0 ∨ to ≥ F.p.as.length
  · refine pop_v F st m (xs ++ bs) to (by rw [hx]) (by omega) h.to ?_
    rintro S1 ⟨ht1, hb1, hk1', hc1⟩ hM1
    obtain ⟨r, sk, nt, hb, hr, hs, hn⟩ := hM1
    by_cases hneg : to < 0
    · simp [ht1, hneg]
      exact hk1 hlost _ (Fr.here (fun n hn => by simp [hb1 n hn, ne_of_Lm hn, Lm]) (fun n hn => by simp [hk1' n hn, ne_of_Lm hn, Lm]) (by simp at hc1 ⊢; omega)) (MS.to ⟨r, sk, nt, hb, hr, hs, hn⟩)
    · simp [ht1, hneg, hb, show (F.p.as.length : Int) ≤ to by omega]
      exact hk1 hlost _ (Fr.here (fun n hn => by simp [hb1 n hn, ne_of_Lm hn, Lm]) (fun n hn => by simp [hk1' n hn, ne_of_Lm hn, Lm]) (by simp at hc1 ⊢; omega)) (MS.to ⟨r, sk, nt, hb, hr, hs, hn⟩)
  obtain ⟨r, sk, nt, hb, hr, hs, hn⟩ := h
  rw [hx] at hs
  rcases hs with ⟨_, q⟩ | ⟨s2, es, rfl, p2, p3, p4⟩
  · simp at q
  have hlen : (xs ++ bs ++ [to]).length = (xs ++ bs).length + 1 := by rw [List.length_append]; rfl
  rw [hlen] at hb p3 p4
  have hget : es[(xs ++ bs).length]? = some (iv to) := by
    have := congrArg (fun l => l[(xs ++ bs).length]?) p4
    simp only [List.getElem?_take_of_lt (Nat.lt_succ_self (xs ++ bs).length)] at this
    rw [this, List.map_append, List.getElem?_append_right (by simp)]; simp
  have htk : es.take (xs ++ bs).length = (xs ++ bs).map iv := by
    have := congrArg (List.take (xs ++ bs).length) p4
    rw [List.take_take, Nat.min_eq_left (by omega)] at this
    rw [this, List.map_append, List.take_left' (by simp)]
  refine pop_x (by omega) hb p2 p3 hget ?_
  have hxb : (xs ++ bs).length = xs.length + bs.length := List.length_append
  have hw : IntKind.i64.wrap (((xs ++ bs).length : Int) - (bs.length : Int)) = (xs.length : Int) := by rw [wrap_in _ (by omega) (by omega)]; omega
  have hj : hd.toNat < F.p.hs.length := (List.getElem?_eq_some_iff.1 hh).1
  have hx' : F.p.hs[hd.toNat] = x := (List.getElem?_eq_some_iff.1 hh).2
  generalize hNL : (xs ++ bs).length = NL at *
  simp [show ¬ to < 0 by omega, show ¬ (F.p.as.length : Int) ≤ to by omega, h0, hj, hx', hargs, hw]
  generalize hc0 : S.clk + 1 + 3 + 1 + 13 + 15 + 2 + 12 + 16 = c0
  generalize hB : upd S.blk 84026 (some ⟨st, 14, [.agg [.lst 2 (F.p.hs.map Hnd.av), .lst 4 (F.p.as.map Actr.av), .lst 3 (F.p.boot.map Nt.av), iv F.p.fuel, iv F.who, F.argv, r, .bool m.armed, iv F.d, iv F.s, iv F.o, .sl 1000107000 s2 1 0 NL, nt, iv m.pc]]⟩) = Bq
  have hB1 : Bq 84026 = some ⟨st, 14, [.agg [.lst 2 (F.p.hs.map Hnd.av), .lst 4 (F.p.as.map Actr.av), .lst 3 (F.p.boot.map Nt.av), iv F.p.fuel, iv F.who, F.argv, r, .bool m.armed, iv F.d, iv F.s, iv F.o, .sl 1000107000 s2 1 0 NL, nt, iv m.pc]]⟩ := by rw [← hB]; simp
  have hB2 : Bq 1000107000 = some ⟨s2, 1, es⟩ := by rw [← hB]; simp [p2]
  have hB3 : Bq 1000163000 = S.blk 1000163000 := by rw [← hB]; simp
  have hBf : ∀ n, Lm n = false → Bq n = S.blk n := by intro n hn; rw [← hB]; simp [ne_of_Lm hn, Lm]
  have hbs : xs.length + bs.length = NL := by omega
  have hcl : listOf Bq 1 (.sl 1000107000 s2 1 xs.length bs.length) = some (bs.map iv) := by
    have e1 : (es.drop xs.length).take bs.length = bs.map iv := by
      have := congrArg (List.drop xs.length) htk
      rw [List.drop_take, List.map_append, List.drop_left' (by simp), show NL - xs.length = bs.length by omega] at this
      exact this
    simp [listOf, hB2, getB, e1, show xs.length + bs.length ≤ es.length by omega]
  let nv : AV := .agg [iv to, iv hd, .lst 1 (bs.map iv)]
  let n16 : AV := .acc 110052 (c0 + 16) 3 (m.notes.map Nt.av ++ [nv])
  let tbl : List (Nat × AV) := [(36, .ptr 84026 st 14 0 0), (37, .ptr 84026 st 14 0 0), (38, .ptr 84026 st 14 0 0), (39, .ptr 84026 st 14 0 12), (40, nt), (41, iv to), (42, iv hd), (43, .ptr 84026 st 14 0 0), (44, .ptr 84026 st 14 0 0), (45, .ptr 84026 st 14 0 11), (46, .sl 1000107000 s2 1 0 NL), (47, iv xs.length),
    (48, .sl 1000107000 s2 1 xs.length bs.length), (49, .lst 1 (bs.map iv)), (50, nv), (51, .acc 110051 (c0 + 15) 3 [nv]), (52, n16), (53, .ptr 84026 st 14 0 0), (54, .ptr 84026 st 14 0 12)]
  let M' : Option Blk := some ⟨st, 14, [.agg [.lst 2 (F.p.hs.map Hnd.av), .lst 4 (F.p.as.map Actr.av), .lst 3 (F.p.boot.map Nt.av), iv F.p.fuel, iv F.who, F.argv, r, .bool m.armed, iv F.d, iv F.s, iv F.o, .sl 1000107000 s2 1 0 NL, n16, iv m.pc]]⟩
  have hnd : (tbl.map (·.1)).Nodup := by simp [tbl]
  obtain ⟨I, hI⟩ : ∃ I : (Nat → Bool) → St → Prop, ∀ D S', I D S' ↔ (SF tbl D S' ∧ S'.t 0 = .ptr 84026 st 14 0 0 ∧ S'.t 1 = iv hd ∧ S'.t 5 = iv to ∧ S'.t 6 = iv xs.length ∧ c0 + 20 ≤ S'.clk ∧ S'.blk = (if D 19 = true then upd Bq 84026 M' else Bq) ∧
    (∀ n, Lm n = false → S'.tok n = S.tok n) ∧ S'.tok 110052 = (if D 16 = true then some ⟨c0 + 16, 3, 40⟩ else S.tok 110052)) := ⟨_, fun _ _ => Iff.rfl⟩
  have stp : ∀ (D : Nat → Bool) (S' : St) (j d : Nat) (v : AV) (op : AOp) (st' : Nat) (wt : List (Nat × Option Tok)), tbl[j]? = some (d, v) → j ≠ 16 → j ≠ 19 → 30 < d → I D S' → ex S'.t S'.blk S'.tok st' op = some { v := v, wt := wt } → (wt = [] ∨ ∃ t, wt = [(110051, t)]) → stepV Try.prog st' ⟨some d, none, .op op⟩ S' (I (fun i => (i == j) || D i)) := by
    intro D S' j d v op st' wt hj n16 n19 hd30 hi he hwt
    obtain ⟨hsf, g0, g1, g5, g6, hc, hbk, htf, htn⟩ := (hI _ _).1 hi
    refine stepV_op _ he ((hI _ _).2 ⟨hsf.ins hnd hj (upd_same _ _ _) (fun y hy => upd_ne _ _ _ _ hy), (upd_ne _ _ _ _ (by omega)).trans g0, (upd_ne _ _ _ _ (by omega)).trans g1, (upd_ne _ _ _ _ (by omega)).trans g5, (upd_ne _ _ _ _ (by omega)).trans g6, hc, hbk.trans ?_, ?_, ?_⟩)
    · simp [show (19 == j) = false by simp; omega]
    · intro n hn
      rcases hwt with rfl | ⟨t, rfl⟩
      · exact htf n hn
      · show upd S'.tok 110051 t n = _
        rw [upd_out hn rfl]; exact htf n hn
    · simp only [show (16 == j) = false by simp; omega, Bool.false_or]
      rcases hwt with rfl | ⟨t, rfl⟩
      · exact htn
      · show upd S'.tok 110051 t 110052 = _
        rw [upd_ne _ _ _ _ (by simp)]; exact htn
  show regI _ _ _ _ _ _
  refine ⟨I, (hI _ _).2 ⟨SF.start _ _, by simp, by simp, by simp, by simp, Nat.le_refl _, by simp, fun n hn => rfl, by simp⟩, ?_, ?_⟩
  · rintro D S' j ai hj hDj hpre hcl' hi
    obtain ⟨hsf, g0, g1, g5, g6, hc, hbk, htf, htn⟩ := (hI _ _).1 hi
    have hbk0 : D j = false → j ≤ 19 → S'.blk = Bq := by
      intro _ hle
      have d19 : D 19 = false := by
        cases hx : D 19 with
        | false => rfl
        | true =>
          by_cases e : j = 19
          · subst e; rw [hDj] at hx; cases hx
          · have := hcl' 19 hx j (by simp; omega); rw [hDj] at this; cases this
      rw [hbk, if_neg (by rw [d19]; simp)]
    match j, hj, hDj, hpre with
    | 0, hj, hDj, hpre =>
      simp at hj; subst hj
      exact stp D S' 0 36 _ _ _ [] rfl (by simp) (by simp) (by simp) hi (by simp [g0]) (.inl rfl)
    | 1, hj, hDj, hpre =>
      simp at hj; subst hj
      exact stp D S' 1 37 _ _ _ [] rfl (by simp) (by simp) (by simp) hi (by simp [g0]) (.inl rfl)
    | 2, hj, hDj, hpre =>
      simp at hj hpre; subst hj
      exact stp D S' 2 38 _ _ _ [] rfl (by simp) (by simp) (by simp) hi (by simp [hsf 1 37 _ rfl hpre]) (.inl rfl)
    | 3, hj, hDj, hpre =>
      simp at hj hpre; subst hj
      exact stp D S' 3 39 _ _ _ [] rfl (by simp) (by simp) (by simp) hi (by simp [hsf 2 38 _ rfl hpre.1]) (.inl rfl)
    | 4, hj, hDj, hpre =>
      simp at hj hpre; subst hj
      have hq := hbk0 hDj (by omega)
      exact stp D S' 4 40 _ _ _ [] rfl (by simp) (by simp) (by simp) hi (by simp [hsf 3 39 _ rfl hpre.1, hq, hB1]) (.inl rfl)
    | 5, hj, hDj, hpre =>
      simp at hj; subst hj
      exact stp D S' 5 41 _ _ _ [] rfl (by simp) (by simp) (by simp) hi (by simp [g5]) (.inl rfl)
    | 6, hj, hDj, hpre =>
      simp at hj; subst hj
      exact stp D S' 6 42 _ _ _ [] rfl (by simp) (by simp) (by simp) hi (by simp [g1]) (.inl rfl)
    | 7, hj, hDj, hpre =>
      simp at hj; subst hj
      exact stp D S' 7 43 _ _ _ [] rfl (by simp) (by simp) (by simp) hi (by simp [g0]) (.inl rfl)
    | 8, hj, hDj, hpre =>
      simp at hj hpre; subst hj
      exact stp D S' 8 44 _ _ _ [] rfl (by simp) (by simp) (by simp) hi (by simp [hsf 7 43 _ rfl hpre]) (.inl rfl)
    | 9, hj, hDj, hpre =>
      simp at hj hpre; subst hj
      exact stp D S' 9 45 _ _ _ [] rfl (by simp) (by simp) (by simp) hi (by simp [hsf 8 44 _ rfl hpre.1]) (.inl rfl)
    | 10, hj, hDj, hpre =>
      simp at hj hpre; subst hj
      have hq := hbk0 hDj (by omega)
      exact stp D S' 10 46 _ _ _ [] rfl (by simp) (by simp) (by simp) hi (by simp [hsf 9 45 _ rfl hpre.1, hq, hB1]) (.inl rfl)
    | 11, hj, hDj, hpre =>
      simp at hj; subst hj
      exact stp D S' 11 47 _ _ _ [] rfl (by simp) (by simp) (by simp) hi (by simp [g6]) (.inl rfl)
    | 12, hj, hDj, hpre =>
      simp at hj hpre; subst hj
      exact stp D S' 12 48 _ _ _ [] rfl (by simp) (by simp) (by simp) hi (by simp [hsf 10 46 _ rfl hpre.1, hsf 11 47 _ rfl hpre.2.1, show xs.length ≤ NL by omega]; omega) (.inl rfl)
    | 13, hj, hDj, hpre =>
      simp at hj hpre; subst hj
      have hq := hbk0 hDj (by omega)
      refine stepV_call ?_
      simp [hsf 12 48 _ rfl hpre.1]
      refine clone_x _ _ _ _ bs (by rw [hq]; exact hcl) (by omega) ?_
      intro c hc'
      refine (hI _ _).2 ⟨hsf.ins hnd (j := 13) (d := 49) (v := .lst 1 (bs.map iv)) rfl (by simp) (fun y hy => by simp [hy]), by simp [g0], by simp [g1], by simp [g5], by simp [g6], by simp; omega, by simpa using hbk, ?_, by simpa using htn⟩
      intro n hn
      simp [ne_of_Lm hn, Lm]
      exact htf n hn
    | 14, hj, hDj, hpre =>
      simp at hj hpre; subst hj
      exact stp D S' 14 50 _ _ _ [] rfl (by simp) (by simp) (by simp) hi (by simp [hsf 5 41 _ rfl hpre.1, hsf 6 42 _ rfl hpre.2.1, hsf 13 49 _ rfl hpre.2.2.1, nv]) (.inl rfl)
    | 15, hj, hDj, hpre =>
      simp at hj hpre; subst hj
      exact stp D S' 15 51 _ _ _ [(110051, some ⟨c0 + 15, 3, 40⟩)] rfl (by simp) (by simp) (by simp) hi (by simp [hsf 14 50 _ rfl hpre.1, nv]) (.inr ⟨_, rfl⟩)
    | 16, hj, hDj, hpre =>
      simp at hj hpre; subst hj
      have t40 := hsf 4 40 _ rfl hpre.1
      have t51 := hsf 15 51 _ rfl hpre.2.1
      rw [if_neg (by rw [hDj]; simp)] at htn
      have fin : ∀ e : Eff, e.v = n16 → e.wb = [] → (e.wt = [(110052, some ⟨c0 + 16, 3, 40⟩)] ∨ e.wt = [(110052, none), (110052, some ⟨c0 + 16, 3, 40⟩)]) → I (fun i => (i == 16) || D i) (S'.app (some 52) e) := by
        rintro ⟨ev, ewb, ewt⟩ rfl rfl hw
        refine (hI _ _).2 ⟨hsf.ins hnd (j := 16) (d := 52) (v := n16) rfl (by rw [St.app_t, if_pos rfl]) (fun y hy => by rw [St.app_t, if_neg (by simp; omega)]), by rw [St.app_t, if_neg (by simp)]; exact g0, by rw [St.app_t, if_neg (by simp)]; exact g1, by rw [St.app_t, if_neg (by simp)]; exact g5, by rw [St.app_t, if_neg (by simp)]; exact g6, hc, hbk, ?_, ?_⟩
        · intro n hn
          rw [← htf n hn]
          rcases hw with h | h <;> (simp only at h; subst h; show appT _ _ n = _; simp [ne_of_Lm hn, Lm])
        · rcases hw with h | h <;> (simp only at h; subst h; show appT _ _ 110052 = _; simp)
      rcases hn with ⟨rfl, hq⟩ | ⟨sn, rfl, hq⟩
      · exact stepV_op { v := n16, wt := [(110052, some ⟨c0 + 16, 3, 40⟩)] } (by simp [t40, t51, n16, hq, nv]) (fin _ rfl rfl (.inl rfl))
      · exact stepV_op { v := n16, wt := [(110052, none), (110052, some ⟨c0 + 16, 3, 40⟩)] } (by simp [t40, t51, htn, hq, n16, nv, show (m.notes.length + 1) * 40 ≤ 140737488355328 by omega]) (fin _ rfl rfl (.inr rfl))
    | 17, hj, hDj, hpre =>
      simp at hj hpre; subst hj
      exact stp D S' 17 53 _ _ _ [] rfl (by simp) (by simp) (by simp) hi (by simp [hsf 0 36 _ rfl hpre.1]) (.inl rfl)
    | 18, hj, hDj, hpre =>
      simp at hj hpre; subst hj
      exact stp D S' 18 54 _ _ _ [] rfl (by simp) (by simp) (by simp) hi (by simp [hsf 17 53 _ rfl hpre.1]) (.inl rfl)
    | 19, hj, hDj, hpre =>
      simp at hj hpre; subst hj
      have hq := hbk0 hDj (by omega)
      refine stepV_op { v := .junk, wb := [(84026, M')] } (by simp [hsf 18 54 _ rfl hpre.1, hsf 16 52 _ rfl hpre.2.1, hq, hB1, M', n16]) ?_
      refine (hI _ _).2 ⟨hsf.keep (j := 19) rfl rfl, g0, g1, g5, g6, hc, ?_, htf, ?_⟩
      · simp [St.app, appB, hq]
      · simpa using htn
    | j + 20, hj, hDj, hpre => simp at hj
  · rintro D S' hD hi
    obtain ⟨hsf, g0, g1, g5, g6, hc, hbk, htf, htn⟩ := (hI _ _).1 hi
    rw [if_pos (hD 19 (by simp))] at hbk
    rw [if_pos (hD 16 (by simp))] at htn
    have m1 : S'.blk 84026 = M' := by rw [hbk]; simp
    have m2 : S'.blk 1000163000 = S.blk 1000163000 := by rw [hbk]; simp [hB3]
    have m3 : S'.blk 1000107000 = some ⟨s2, 1, es⟩ := by rw [hbk]; simp [hB2]
    have m4 : ∀ n, Lm n = false → S'.blk n = S.blk n := by intro n hn; rw [hbk]; simp [ne_of_Lm hn, Lm]; exact hBf n hn
    simp [g0, g6, m1, M', show xs.length ≤ NL by omega]
    refine hk2 hlost _ (Fr.here (fun n hn => by simp [ne_of_Lm hn, Lm]; exact m4 n hn) (fun n hn => htf n hn) (by omega)) (MS.mk' (upd_same _ _ _) ?_ ?_ ?_)
    · rcases hr with ⟨rfl, hq⟩ | ⟨sr, rfl, hq⟩
      · exact .inl ⟨rfl, hq⟩
      · exact .inr ⟨sr, rfl, by simp [m2, hq]⟩
    · refine .inr ⟨s2, es, rfl, by simp [m3], by simp only []; omega, ?_⟩
      have := congrArg (List.take xs.length) htk
      rw [List.take_take, Nat.min_eq_left (by omega), List.map_append, List.take_left' (by simp)] at this
      exact this
    · refine .inr ⟨c0 + 16, ?_, by simpa using htn⟩
      simp [n16, nv, Nt.av]

end Go.Gv

/- What vm's machine does at an instruction. Conditions: what is taken is on the stack, operands are in range (DoOk). -/
set_option linter.unusedVariables false
set_option linter.unusedSimpArgs false
namespace Go.Gv
open Go.Proofs

def mdo_r0 : List AI := [⟨(some 3), none, (.op (.box 98003 2 (.t 1)))⟩, ⟨(some 4), none, (.op (.mv (.c (.int .i64 0))))⟩]
def mdo_r1 : List AI := [⟨(some 7), none, (.op (.mv (.t 0)))⟩, ⟨(some 8), none, (.op (.nilck (.t 7)))⟩, ⟨(some 9), none, (.op (.fld 13 (.t 8)))⟩, ⟨(some 10), none, (.op (.load none (.t 9)))⟩, ⟨(some 11), none, (.op (.ibin .add (.t 10) (.c (.int .i64 1))))⟩, ⟨(some 12), none, (.op (.nilck (.t 7)))⟩, ⟨(some 13), none, (.op (.fld 13 (.t 12)))⟩, ⟨none, none, (.op (.store 1 (.t 13) (.t 11)))⟩]
def mdo_r2 : List AI := [⟨(some 14), none, (.op (.fld 0 (.t 3)))⟩, ⟨(some 15), none, (.op (.load none (.t 14)))⟩]
def mdo_r3 : List AI := [⟨(some 21), none, (.op (.ibin .eql (.t 15) (.c (.int .i64 1))))⟩, ⟨(some 20), none, (.op (.mv (.t 21)))⟩]
def mdo_r4 : List AI := [⟨(some 22), none, (.op (.mv (.t 0)))⟩, ⟨(some 23), none, (.op (.fld 1 (.t 3)))⟩, ⟨(some 24), none, (.op (.load none (.t 23)))⟩, ⟨(some 25), none, (.op (.bsl 98025 1 3 1 (.int .i64 0) [(0, (.t 24))]))⟩, ⟨(some 26), none, (.call (.c (.fn 107 [])) [(.t 22), (.t 25)])⟩]
def mdo_r5 : List AI := [⟨(some 28), none, (.op (.ibin .eql (.t 15) (.c (.int .i64 2))))⟩, ⟨(some 27), none, (.op (.mv (.t 28)))⟩]
def mdo_r6 : List AI := [⟨(some 29), none, (.op (.mv (.t 0)))⟩, ⟨(some 30), none, (.call (.c (.fn 108 [])) [(.t 29)])⟩]
def mdo_r7 : List AI := [⟨(some 32), none, (.op (.ibin .eql (.t 15) (.c (.int .i64 3))))⟩, ⟨(some 31), none, (.op (.mv (.t 32)))⟩]
def mdo_r8 : List AI := [⟨(some 33), none, (.op (.mv (.t 0)))⟩, ⟨(some 34), none, (.op (.mv (.t 0)))⟩, ⟨(some 35), none, (.op (.nilck (.t 34)))⟩, ⟨(some 36), none, (.op (.fld 11 (.t 35)))⟩, ⟨(some 37), none, (.op (.load none (.t 36)))⟩, ⟨(some 38), none, (.op (.mv (.t 0)))⟩, ⟨(some 39), none, (.op (.nilck (.t 38)))⟩, ⟨(some 40), none, (.op (.fld 11 (.t 39)))⟩, ⟨(some 41), none, (.op (.load none (.t 40)))⟩, ⟨(some 42), none, (.op (.len (.t 41)))⟩, ⟨(some 43), none, (.op (.ibin .sub (.t 42) (.c (.int .i64 1))))⟩, ⟨(some 44), none, (.op (.idx 1 (.t 37) (.t 43)))⟩, ⟨(some 45), none, (.op (.load none (.t 44)))⟩, ⟨(some 46), none, (.op (.bsl 98046 1 3 1 (.int .i64 0) [(0, (.t 45))]))⟩, ⟨(some 47), none, (.call (.c (.fn 107 [])) [(.t 33), (.t 46)])⟩]
def mdo_p8 : List (List Nat) := [[], [], [1], [2, 1], [3, 2, 1], [], [5], [6, 5], [7, 6, 5], [8, 7, 6, 5], [9, 8, 7, 6, 5], [4, 10, 3, 2, 1, 9, 8, 7, 6, 5], [11, 4, 10, 3, 2, 1, 9, 8, 7, 6, 5], [12, 11, 4, 10, 3, 2, 1, 9, 8, 7, 6, 5], [0, 13, 12, 11, 4, 10, 3, 2, 1, 9, 8, 7, 6, 5]]
def mdo_r9 : List AI := [⟨(some 49), none, (.op (.ibin .eql (.t 15) (.c (.int .i64 4))))⟩, ⟨(some 48), none, (.op (.mv (.t 49)))⟩]
def mdo_r10 : List AI := [⟨(some 50), none, (.op (.mv (.t 0)))⟩, ⟨(some 51), none, (.call (.c (.fn 108 [])) [(.t 50)])⟩, ⟨(some 52), none, (.op (.mv (.t 0)))⟩, ⟨(some 53), none, (.call (.c (.fn 108 [])) [(.t 52)])⟩, ⟨(some 5), none, (.op (.mv (.t 51)))⟩, ⟨(some 6), none, (.op (.mv (.t 53)))⟩]
def mdo_r11 : List AI := [⟨(some 54), none, (.op (.mv (.t 0)))⟩, ⟨(some 55), none, (.op (.mv (.t 5)))⟩, ⟨(some 56), none, (.op (.mv (.t 6)))⟩, ⟨(some 57), none, (.op (.bsl 98057 1 3 2 (.int .i64 0) [(0, (.t 55)), (1, (.t 56))]))⟩, ⟨(some 58), none, (.call (.c (.fn 107 [])) [(.t 54), (.t 57)])⟩]
def mdo_r12 : List AI := [⟨(some 60), none, (.op (.ibin .eql (.t 15) (.c (.int .i64 5))))⟩, ⟨(some 59), none, (.op (.mv (.t 60)))⟩]
def mdo_r13 : List AI := [⟨(some 61), none, (.op (.ibin .eql (.t 15) (.c (.int .i64 6))))⟩, ⟨(some 59), none, (.op (.mv (.t 61)))⟩]
def mdo_r14 : List AI := [⟨(some 62), none, (.op (.mv (.t 0)))⟩, ⟨(some 63), none, (.op (.load (some 2) (.t 3)))⟩, ⟨(some 64), none, (.call (.c (.fn 109 [])) [(.t 62), (.t 63)])⟩]
def mdo_r15 : List AI := [⟨(some 66), none, (.op (.ibin .eql (.t 15) (.c (.int .i64 7))))⟩, ⟨(some 65), none, (.op (.mv (.t 66)))⟩]
def mdo_r16 : List AI := [⟨(some 67), none, (.op (.mv (.t 0)))⟩, ⟨(some 68), none, (.op (.mv (.t 0)))⟩, ⟨(some 69), none, (.op (.nilck (.t 68)))⟩, ⟨(some 70), none, (.op (.fld 5 (.t 69)))⟩, ⟨(some 71), none, (.op (.load none (.t 70)))⟩, ⟨(some 72), none, (.op (.fld 1 (.t 3)))⟩, ⟨(some 73), none, (.op (.load none (.t 72)))⟩, ⟨(some 74), none, (.op (.idx 1 (.t 71) (.t 73)))⟩, ⟨(some 75), none, (.op (.load none (.t 74)))⟩, ⟨(some 76), none, (.op (.bsl 98076 1 3 1 (.int .i64 0) [(0, (.t 75))]))⟩, ⟨(some 77), none, (.call (.c (.fn 107 [])) [(.t 67), (.t 76)])⟩]
def mdo_p16 : List (List Nat) := [[], [], [1], [2, 1], [3, 2, 1], [], [5], [4, 6, 3, 2, 1, 5], [7, 4, 6, 3, 2, 1, 5], [8, 7, 4, 6, 3, 2, 1, 5], [0, 9, 8, 7, 4, 6, 3, 2, 1, 5]]
def mdo_r17 : List AI := [⟨(some 79), none, (.op (.ibin .eql (.t 15) (.c (.int .i64 8))))⟩, ⟨(some 78), none, (.op (.mv (.t 79)))⟩]
def mdo_r18 : List AI := [⟨(some 80), none, (.op (.mv (.t 0)))⟩, ⟨(some 81), none, (.op (.mv (.t 0)))⟩, ⟨(some 82), none, (.op (.nilck (.t 81)))⟩, ⟨(some 83), none, (.op (.fld 4 (.t 82)))⟩, ⟨(some 84), none, (.op (.load none (.t 83)))⟩, ⟨(some 85), none, (.op (.bsl 98085 1 3 1 (.int .i64 0) [(0, (.t 84))]))⟩, ⟨(some 86), none, (.call (.c (.fn 107 [])) [(.t 80), (.t 85)])⟩]
def mdo_r19 : List AI := [⟨(some 88), none, (.op (.ibin .eql (.t 15) (.c (.int .i64 20))))⟩, ⟨(some 87), none, (.op (.mv (.t 88)))⟩]
def mdo_r20 : List AI := [⟨(some 89), none, (.op (.mv (.t 0)))⟩, ⟨(some 90), none, (.op (.fld 1 (.t 3)))⟩, ⟨(some 91), none, (.op (.load none (.t 90)))⟩, ⟨(some 92), none, (.op (.nilck (.t 89)))⟩, ⟨(some 93), none, (.op (.fld 13 (.t 92)))⟩, ⟨none, none, (.op (.store 1 (.t 93) (.t 91)))⟩]
def mdo_r21 : List AI := [⟨(some 95), none, (.op (.ibin .eql (.t 15) (.c (.int .i64 21))))⟩, ⟨(some 94), none, (.op (.mv (.t 95)))⟩]
def mdo_r22 : List AI := [⟨(some 96), none, (.op (.mv (.t 0)))⟩, ⟨(some 97), none, (.call (.c (.fn 108 [])) [(.t 96)])⟩, ⟨(some 98), none, (.op (.ibin .eql (.t 97) (.c (.int .i64 0))))⟩]
def mdo_r23 : List AI := [⟨(some 99), none, (.op (.mv (.t 0)))⟩, ⟨(some 100), none, (.op (.fld 1 (.t 3)))⟩, ⟨(some 101), none, (.op (.load none (.t 100)))⟩, ⟨(some 102), none, (.op (.nilck (.t 99)))⟩, ⟨(some 103), none, (.op (.fld 13 (.t 102)))⟩, ⟨none, none, (.op (.store 1 (.t 103) (.t 101)))⟩]
def mdo_r24 : List AI := [⟨(some 105), none, (.op (.ibin .eql (.t 15) (.c (.int .i64 22))))⟩, ⟨(some 104), none, (.op (.mv (.t 105)))⟩]
def mdo_r25 : List AI := [⟨(some 106), none, (.op (.mv (.t 0)))⟩, ⟨(some 107), none, (.op (.fld 1 (.t 3)))⟩, ⟨(some 108), none, (.op (.load none (.t 107)))⟩, ⟨(some 109), none, (.call (.c (.fn 110 [])) [(.t 106), (.t 108)])⟩, ⟨(some 4), none, (.op (.mv (.t 109)))⟩]
def mdo_r26 : List AI := [⟨(some 111), none, (.op (.ibin .eql (.t 15) (.c (.int .i64 23))))⟩, ⟨(some 110), none, (.op (.mv (.t 111)))⟩]
def mdo_r27 : List AI := [⟨(some 112), none, (.op (.mv (.t 0)))⟩, ⟨(some 113), none, (.op (.mv (.t 0)))⟩, ⟨(some 114), none, (.op (.nilck (.t 113)))⟩, ⟨(some 115), none, (.op (.fld 6 (.t 114)))⟩, ⟨(some 116), none, (.op (.fld 1 (.t 115)))⟩, ⟨(some 117), none, (.op (.load none (.t 116)))⟩, ⟨(some 118), none, (.op (.mv (.t 117)))⟩, ⟨(some 119), (some (118, false)), (.op (.mv (.t 0)))⟩, ⟨(some 120), (some (118, false)), (.op (.nilck (.t 119)))⟩, ⟨(some 121), (some (118, false)), (.op (.fld 0 (.t 120)))⟩, ⟨(some 122), (some (118, false)), (.op (.fld 1 (.t 121)))⟩, ⟨(some 123), (some (118, false)), (.op (.load none (.t 122)))⟩, ⟨(some 124), (some (118, false)), (.op (.mv (.t 0)))⟩, ⟨(some 125), (some (118, false)), (.op (.nilck (.t 124)))⟩, ⟨(some 126), (some (118, false)), (.op (.fld 4 (.t 125)))⟩, ⟨(some 127), (some (118, false)), (.op (.load none (.t 126)))⟩, ⟨(some 128), (some (118, false)), (.op (.idx 4 (.t 123) (.t 127)))⟩, ⟨(some 129), (some (118, false)), (.op (.fld 2 (.t 128)))⟩, ⟨(some 130), (some (118, false)), (.op (.load none (.t 129)))⟩, ⟨(some 131), (some (118, false)), (.op (.ibin .neq (.t 130) (.c (.int .i64 (-1)))))⟩, ⟨(some 132), none, (.op (.pick (.t 118) (.c (.bool true)) (.t 131)))⟩, ⟨(some 133), none, (.op (.nilck (.t 112)))⟩, ⟨(some 134), none, (.op (.fld 6 (.t 133)))⟩, ⟨(some 135), none, (.op (.fld 1 (.t 134)))⟩, ⟨none, none, (.op (.store 1 (.t 135) (.t 132)))⟩]
def mdo_p27 : List (List Nat) := [[], [], [1], [2, 1], [3, 2, 1], [4, 3, 2, 1], [5, 4, 3, 2, 1], [6, 5, 4, 3, 2, 1], [7, 6, 5, 4, 3, 2, 1], [8, 6, 7, 5, 4, 3, 2, 1], [9, 6, 8, 7, 5, 4, 3, 2, 1], [10, 6, 9, 8, 7, 5, 4, 3, 2, 1], [6, 5, 4, 3, 2, 1], [12, 6, 5, 4, 3, 2, 1], [13, 6, 12, 5, 4, 3, 2, 1], [14, 6, 13, 12, 5, 4, 3, 2, 1], [11, 15, 6, 10, 9, 8, 7, 5, 4, 3, 2, 1, 14, 13, 12], [16, 6, 11, 15, 10, 9, 8, 7, 5, 4, 3, 2, 1, 14, 13, 12], [17, 6, 16, 11, 15, 10, 9, 8, 7, 5, 4, 3, 2, 1, 14, 13, 12], [18, 6, 17, 16, 11, 15, 10, 9, 8, 7, 5, 4, 3, 2, 1, 14, 13, 12], [6, 19, 5, 4, 3, 2, 1, 18, 17, 16, 11, 15, 10, 9, 8, 7, 14, 13, 12], [0, 1, 2, 3, 4, 5, 6, 7, 8, 9, 10, 11, 12, 13, 14, 15, 16, 17, 18, 19, 20], [21, 0, 1, 2, 3, 4, 5, 6, 7, 8, 9, 10, 11, 12, 13, 14, 15, 16, 17, 18, 19, 20], [22, 0, 1, 2, 3, 4, 5, 6, 7, 8, 9, 10, 11, 12, 13, 14, 15, 16, 17, 18, 19, 20, 21], [23, 20, 6, 0, 1, 2, 3, 4, 5, 7, 8, 9, 10, 11, 12, 13, 14, 15, 16, 17, 18, 19, 22, 21]]
def mdo_r28 : List AI := [⟨(some 137), none, (.op (.ibin .eql (.t 15) (.c (.int .i64 24))))⟩, ⟨(some 136), none, (.op (.mv (.t 137)))⟩]
def mdo_r29 : List AI := [⟨(some 138), none, (.op (.mv (.t 0)))⟩, ⟨(some 139), none, (.op (.nilck (.t 138)))⟩, ⟨(some 140), none, (.op (.fld 6 (.t 139)))⟩, ⟨(some 141), none, (.op (.fld 1 (.t 140)))⟩, ⟨none, none, (.op (.store 1 (.t 141) (.c (.bool false))))⟩]
def mdo_r30 : List AI := [⟨(some 143), none, (.op (.ibin .eql (.t 15) (.c (.int .i64 25))))⟩, ⟨(some 142), none, (.op (.mv (.t 143)))⟩]
def mdo_r31 : List AI := [⟨(some 144), none, (.op (.mv (.t 0)))⟩, ⟨(some 145), none, (.op (.nilck (.t 144)))⟩, ⟨(some 146), none, (.op (.fld 13 (.t 145)))⟩, ⟨none, none, (.op (.store 1 (.t 146) (.c (.int .i64 (-1)))))⟩]
def mdo_r32 : List AI := [⟨(some 16), none, (.op (.mv (.t 0)))⟩, ⟨(some 17), none, (.op (.fld 0 (.t 3)))⟩, ⟨(some 18), none, (.op (.load none (.t 17)))⟩, ⟨(some 19), none, (.call (.c (.fn 111 [])) [(.t 16), (.t 18)])⟩, ⟨(some 4), none, (.op (.mv (.t 19)))⟩]
def mdo_r33 : List AI := [⟨(some 4), none, (.op (.mv (.c (.int .i64 0))))⟩]
def mdo_c : AC := (.seq (.reg mdo_r0) (.seq (.reg mdo_r1) (.seq (.seq (.reg mdo_r2) (.block 0 (.seq (.reg mdo_r3) (.cond (.t 20) (.reg mdo_r4) (.seq (.reg mdo_r5) (.cond (.t 27) (.reg mdo_r6) (.seq (.reg mdo_r7) (.cond (.t 31) (.regi mdo_r8 mdo_p8) (.seq (.reg mdo_r9) (.cond (.t 48) (.seq (.reg mdo_r10) (.reg mdo_r11)) (.seq (.seq (.reg mdo_r12) (.cond (.t 59) .skip (.reg mdo_r13))) (.cond (.t 59) (.reg mdo_r14) (.seq (.reg mdo_r15) (.cond (.t 65) (.regi mdo_r16 mdo_p16) (.seq (.reg mdo_r17) (.cond (.t 78) (.reg mdo_r18) (.seq (.reg mdo_r19) (.cond (.t 87) (.reg mdo_r20) (.seq (.reg mdo_r21) (.cond (.t 94) (.seq (.reg mdo_r22) (.cond (.t 98) (.reg mdo_r23) .skip)) (.seq (.reg mdo_r24) (.cond (.t 104) (.seq (.reg mdo_r25) .ret) (.seq (.reg mdo_r26) (.cond (.t 110) (.regd mdo_r27 mdo_p27) (.seq (.reg mdo_r28) (.cond (.t 136) (.reg mdo_r29) (.seq (.reg mdo_r30) (.cond (.t 142) (.reg mdo_r31) (.seq (.reg mdo_r32) .ret))))))))))))))))))))))))))))) (.seq (.reg mdo_r33) .ret))))
def mdo_res : List ARes := [(.tmp 4)]
set_option maxRecDepth 100000 in
theorem mdo_get : getF Try.prog 98 98000 [(2000009, 1), (2000017, 1)] = some ("(*gavotte/vm.machine).do", 147, mdo_c, mdo_res) := by kernel_rfl
attribute [simp] mdo_r0 mdo_r1 mdo_r2 mdo_r3 mdo_r4 mdo_r5 mdo_r6 mdo_r7 mdo_r8 mdo_p8 mdo_r9 mdo_r10 mdo_r11 mdo_r12 mdo_r13 mdo_r14 mdo_r15 mdo_r16 mdo_p16 mdo_r17 mdo_r18 mdo_r19 mdo_r20 mdo_r21 mdo_r22 mdo_r23 mdo_r24 mdo_r25 mdo_r26 mdo_r27 mdo_p27 mdo_r28 mdo_r29 mdo_r30 mdo_r31 mdo_r32 mdo_r33 mdo_res

def top (l : List Int) : Int := l.getLast?.getD 0
theorem top_split {l : List Int} (h : 1 ≤ l.length) : l = l.dropLast ++ [top l] := by
  have hne : l ≠ [] := by rintro rfl; simp at h
  have := (List.dropLast_concat_getLast hne).symm
  rw [top, List.getLast?_eq_some_getLast hne]; exact this
theorem top_split2 {l : List Int} (h : 2 ≤ l.length) : l = l.dropLast.dropLast ++ [top l.dropLast, top l] := by
  have h1 := top_split (l := l) (by omega)
  have h2 := top_split (l := l.dropLast) (by simp; omega)
  rw [List.append_cons, ← h2, ← h1]
theorem do1_v (F : Fx) (st : Nat) (m : Mach) (i : Ins) (hop : i.op = 1) (hpc : 0 ≤ m.pc ∧ m.pc < 1000) (hl : m.st.length < 900) {S : St} {k : AV → St → Prop} {u : Dep k} (h : MS F st m S)
    (hk : ∀ S', Fr Lm S S' → MS F st { m with pc := m.pc + 1, st := m.st ++ [i.a] } S' → k (iv 0) S') : CallG Try.prog (.fn 98 []) [.ptr 84026 st 14 0 0, i.av] S k u := by
  refine callV mdo_get (by simp) (by simp) ?_
  unfold mdo_c
  obtain ⟨r, sk, nt, hb, hr, hs, hn⟩ := h
  have ws : IntKind.i64.wrap (m.pc + 1) = m.pc + 1 := wrap_in _ (by omega) (by omega)
  simp [hb, hop, ws]
  refine push_v F st { m with pc := m.pc + 1 } [i.a] (by simp) (by simp; omega) _ _ (MS.mk' (upd_same _ _ _) ?_ ?_ ?_) ?_
  · simpa [RegIs] using hr
  · simpa [StkIs] using hs
  · simpa [AccIs] using hn
  rintro S1 ⟨ht1, hb1, hk1, hc1⟩ hM1
  simp [ht1]
  exact hk _ (Fr.here (fun n hn => by simp [hb1 n hn, ne_of_Lm hn, Lm]) (fun n hn => by simp [hk1 n hn, ne_of_Lm hn, Lm]) (by simp at hc1 ⊢; omega)) hM1.to
theorem StkIs.last {S : St} {v : AV} {xs : List Int} (h : StkIs S v xs) (h1 : 1 ≤ xs.length) : ∃ st es, v = .sl 1000107000 st 1 0 xs.length ∧ S.blk 1000107000 = some ⟨st, 1, es⟩ ∧ xs.length ≤ es.length ∧ es[xs.length - 1]? = some (iv (top xs)) := by
  rcases h with ⟨_, rfl⟩ | ⟨st, es, q1, q2, q3, q4⟩
  · simp at h1
  refine ⟨st, es, q1, q2, q3, ?_⟩
  have := congrArg (fun l => l[xs.length - 1]?) q4
  simp only [List.getElem?_take_of_lt (show xs.length - 1 < xs.length by omega)] at this
  rw [this, List.getElem?_map]
  have hne : xs ≠ [] := by rintro rfl; simp at h1
  rw [top, List.getLast?_eq_some_getLast hne, List.getElem?_eq_getElem (by omega), List.getLast_eq_getElem]
  rfl
theorem do2_v (F : Fx) (st : Nat) (m : Mach) (i : Ins) (hop : i.op = 2) (h1 : 1 ≤ m.st.length) (hpc : 0 ≤ m.pc ∧ m.pc < 1000) (hl : m.st.length < 900) {S : St} {k : AV → St → Prop} {u : Dep k} (h : MS F st m S)
    (hk : ∀ S', Fr Lm S S' → MS F st { m with pc := m.pc + 1, st := m.st.dropLast } S' → k (iv 0) S') : CallG Try.prog (.fn 98 []) [.ptr 84026 st 14 0 0, i.av] S k u := by
  refine callV mdo_get (by simp) (by simp) ?_
  unfold mdo_c
  obtain ⟨r, sk, nt, hb, hr, hs, hn⟩ := h
  have ws : IntKind.i64.wrap (m.pc + 1) = m.pc + 1 := wrap_in _ (by omega) (by omega)
  simp [hb, hop, ws]
  refine pop_v F st { m with pc := m.pc + 1 } m.st.dropLast (top m.st) (top_split h1) (by simp; omega) (MS.mk' (upd_same _ _ _) (by simpa [RegIs] using hr) (by simpa [StkIs] using hs) (by simpa [AccIs] using hn)) ?_
  rintro S1 ⟨ht1, hb1, hk1, hc1⟩ hM1
  simp [ht1]
  exact hk _ (Fr.here (fun n hn => by simp [hb1 n hn, ne_of_Lm hn, Lm]) (fun n hn => by first | rfl | simp [hk1 n hn, ne_of_Lm hn, Lm]) (by simp at hc1 ⊢; omega)) hM1.to
theorem do3_v (F : Fx) (st : Nat) (m : Mach) (i : Ins) (hop : i.op = 3) (h1 : 1 ≤ m.st.length) (hpc : 0 ≤ m.pc ∧ m.pc < 1000) (hl : m.st.length < 900) {S : St} {k : AV → St → Prop} {u : Dep k} (h : MS F st m S)
    (hk : ∀ S', Fr Lm S S' → MS F st { m with pc := m.pc + 1, st := m.st ++ [top m.st] } S' → k (iv 0) S') : CallG Try.prog (.fn 98 []) [.ptr 84026 st 14 0 0, i.av] S k u := by
  refine callV mdo_get (by simp) (by simp) ?_
  unfold mdo_c
  obtain ⟨r, sk, nt, hb, hr, hs, hn⟩ := h
  have ws : IntKind.i64.wrap (m.pc + 1) = m.pc + 1 := wrap_in _ (by omega) (by omega)
  obtain ⟨s2, es, q1, q2, q3, q4⟩ := hs.last h1
  have wl : IntKind.i64.wrap ((m.st.length : Int) - 1) = ((m.st.length - 1 : Nat) : Int) := by rw [wrap_in _ (by omega) (by omega)]; omega
  simp [hb, hop, ws]
  refine regi_end (by simp) (by rfl) ?_
  simp [q1, q2, q4, wl, show m.st.length - 1 < m.st.length by omega]
  rw [q1] at hs
  refine push_v F st { m with pc := m.pc + 1 } [top m.st] (by simp) (by simp; omega) _ _ (MS.mk' (upd_same _ _ _) (by simpa [RegIs] using hr) (by simpa [StkIs] using hs) (by simpa [AccIs] using hn)) ?_
  rintro S1 ⟨ht1, hb1, hk1, hc1⟩ hM1
  simp [ht1]
  exact hk _ (Fr.here (fun n hn => by simp [hb1 n hn, ne_of_Lm hn, Lm]) (fun n hn => by first | rfl | simp [hk1 n hn, ne_of_Lm hn, Lm]) (by simp at hc1 ⊢; omega)) hM1.to
theorem do4_v (F : Fx) (st : Nat) (m : Mach) (i : Ins) (hop : i.op = 4) (h1 : 2 ≤ m.st.length) (hpc : 0 ≤ m.pc ∧ m.pc < 1000) (hl : m.st.length < 900) {S : St} {k : AV → St → Prop} {u : Dep k} (h : MS F st m S)
    (hk : ∀ S', Fr Lm S S' → MS F st { m with pc := m.pc + 1, st := m.st.dropLast.dropLast ++ [top m.st, top m.st.dropLast] } S' → k (iv 0) S') : CallG Try.prog (.fn 98 []) [.ptr 84026 st 14 0 0, i.av] S k u := by
  refine callV mdo_get (by simp) (by simp) ?_
  unfold mdo_c
  obtain ⟨r, sk, nt, hb, hr, hs, hn⟩ := h
  have ws : IntKind.i64.wrap (m.pc + 1) = m.pc + 1 := wrap_in _ (by omega) (by omega)
  simp [hb, hop, ws]
  refine pop_v F st { m with pc := m.pc + 1 } m.st.dropLast (top m.st) (top_split (show 1 ≤ m.st.length by omega)) (by simp; omega) (MS.mk' (upd_same _ _ _) (by simpa [RegIs] using hr) (by simpa [StkIs] using hs) (by simpa [AccIs] using hn)) ?_
  rintro S1 ⟨ht1, hb1, hk1, hc1⟩ hM1
  simp [ht1]
  refine pop_v F st { m with pc := m.pc + 1, st := m.st.dropLast } m.st.dropLast.dropLast (top m.st.dropLast) (top_split (by simp; omega)) (by simp; omega) hM1.to ?_
  rintro S2 ⟨ht2, hb2, hk2, hc2⟩ hM2
  simp [ht2]
  refine push_v F st { m with pc := m.pc + 1, st := m.st.dropLast.dropLast } [top m.st, top m.st.dropLast] (by simp) (by simp; omega) _ _ hM2.to ?_
  rintro S3 ⟨ht3, hb3, hk3, hc3⟩ hM3
  simp [ht3]
  exact hk _ (Fr.here (fun n hn => by simp [hb3 n hn, hb2 n hn, hb1 n hn, ne_of_Lm hn, Lm]) (fun n hn => by first | rfl | simp [hk3 n hn, hk2 n hn, hk1 n hn, ne_of_Lm hn, Lm]) (by simp at hc1 hc2 hc3 ⊢; omega)) hM3.to
theorem do5_v (F : Fx) (st : Nat) (m : Mach) (i : Ins) (hop : i.op = 5) (ha : 0 ≤ i.a) (hr8 : m.regs.length ≤ 1000) (hpc : 0 ≤ m.pc ∧ m.pc < 1000) (hl : m.st.length < 900) {S : St} {k : AV → St → Prop} {u : Dep k} (h : MS F st m S)
    (hk : ∀ S', Fr Lm S S' → MS F st { m with pc := m.pc + 1, st := m.st ++ [loadV m i.a] } S' → k (iv 0) S') : CallG Try.prog (.fn 98 []) [.ptr 84026 st 14 0 0, i.av] S k u := by
  refine callV mdo_get (by simp) (by simp) ?_
  unfold mdo_c
  obtain ⟨r, sk, nt, hb, hr, hs, hn⟩ := h
  have ws : IntKind.i64.wrap (m.pc + 1) = m.pc + 1 := wrap_in _ (by omega) (by omega)
  simp [hb, hop, ws]
  refine regload_v F st { m with pc := m.pc + 1 } ⟨5, i.a⟩ (by simp) ha hr8 hl (MS.mk' (upd_same _ _ _) (by simpa [RegIs] using hr) (by simpa [StkIs] using hs) (by simpa [AccIs] using hn)) ?_
  rintro S1 ⟨ht1, hb1, hk1, hc1⟩ hM1
  simp [ht1]
  exact hk _ (Fr.here (fun n hn => by simp [hb1 n hn, ne_of_Lm hn, Lm]) (fun n hn => by first | rfl | simp [hk1 n hn, ne_of_Lm hn, Lm]) (by simp at hc1 ⊢; omega)) hM1.to
/-- How the arguments are handed over: as a list, or in a block of the caller's. -/
def ArgIs (F : Fx) (S : St) : Prop := F.argv = ints F.args ∨ ∃ st, F.argv = .sl 1000016008 st 1 0 F.args.length ∧ S.blk 1000016008 = some ⟨st, 1, F.args.map iv⟩
theorem do7_v (F : Fx) (st : Nat) (m : Mach) (i : Ins) (hop : i.op = 7) (ha : 0 ≤ i.a) (ha2 : i.a.toNat < F.args.length) (hpc : 0 ≤ m.pc ∧ m.pc < 1000) (hl : m.st.length < 900) {S : St} {k : AV → St → Prop} {u : Dep k} (harg : ArgIs F S) (h : MS F st m S)
    (hk : ∀ S', Fr Lm S S' → MS F st { m with pc := m.pc + 1, st := m.st ++ [F.args[i.a.toNat]] } S' → k (iv 0) S') : CallG Try.prog (.fn 98 []) [.ptr 84026 st 14 0 0, i.av] S k u := by
  obtain ⟨p0, who0, args0, d0, s0, o0, argv0⟩ := F
  simp only at ha2 hk
  rcases harg with hv | ⟨sa, hv, hbl⟩
  · simp only at hv
    subst hv
    refine callV mdo_get (by simp) (by simp) ?_
    unfold mdo_c
    obtain ⟨r, sk, nt, hb, hr, hs, hn⟩ := h
    have ws : IntKind.i64.wrap (m.pc + 1) = m.pc + 1 := wrap_in _ (by omega) (by omega)
    simp [hb, hop, ws]
    refine regi_end (by simp) (by rfl) ?_
    simp [ints, ha, ha2]
    refine push_v ⟨p0, who0, args0, d0, s0, o0, ints args0⟩ st { m with pc := m.pc + 1 } [args0[i.a.toNat]] (by simp) (by simp; omega) _ _ (MS.mk' (upd_same _ _ _) (by simpa [RegIs] using hr) (by simpa [StkIs] using hs) (by simpa [AccIs] using hn)) ?_
    rintro S1 ⟨ht1, hb1, hk1, hc1⟩ hM1
    simp [ht1]
    exact hk _ (Fr.here (fun n hn => by simp [hb1 n hn, ne_of_Lm hn, Lm]) (fun n hn => by first | rfl | simp [hk1 n hn, ne_of_Lm hn, Lm]) (by simp at hc1 ⊢; omega)) hM1.to
  · simp only at hv
    subst hv
    refine callV mdo_get (by simp) (by simp) ?_
    unfold mdo_c
    obtain ⟨r, sk, nt, hb, hr, hs, hn⟩ := h
    have ws : IntKind.i64.wrap (m.pc + 1) = m.pc + 1 := wrap_in _ (by omega) (by omega)
    simp [hb, hop, ws]
    refine regi_end (by simp) (by rfl) ?_
    simp [hbl, ha, ha2]
    refine push_v ⟨p0, who0, args0, d0, s0, o0, .sl 1000016008 sa 1 0 args0.length⟩ st { m with pc := m.pc + 1 } [args0[i.a.toNat]] (by simp) (by simp; omega) _ _ (MS.mk' (upd_same _ _ _) (by simpa [RegIs] using hr) (by simpa [StkIs] using hs) (by simpa [AccIs] using hn)) ?_
    rintro S1 ⟨ht1, hb1, hk1, hc1⟩ hM1
    simp [ht1]
    exact hk _ (Fr.here (fun n hn => by simp [hb1 n hn, ne_of_Lm hn, Lm]) (fun n hn => by first | rfl | simp [hk1 n hn, ne_of_Lm hn, Lm]) (by simp at hc1 ⊢; omega)) hM1.to
theorem do8_v (F : Fx) (st : Nat) (m : Mach) (i : Ins) (hop : i.op = 8) (hpc : 0 ≤ m.pc ∧ m.pc < 1000) (hl : m.st.length < 900) {S : St} {k : AV → St → Prop} {u : Dep k} (h : MS F st m S)
    (hk : ∀ S', Fr Lm S S' → MS F st { m with pc := m.pc + 1, st := m.st ++ [F.who] } S' → k (iv 0) S') : CallG Try.prog (.fn 98 []) [.ptr 84026 st 14 0 0, i.av] S k u := by
  refine callV mdo_get (by simp) (by simp) ?_
  unfold mdo_c
  obtain ⟨r, sk, nt, hb, hr, hs, hn⟩ := h
  have ws : IntKind.i64.wrap (m.pc + 1) = m.pc + 1 := wrap_in _ (by omega) (by omega)
  simp [hb, hop, ws]
  refine push_v F st { m with pc := m.pc + 1 } [F.who] (by simp) (by simp; omega) _ _ (MS.mk' (upd_same _ _ _) (by simpa [RegIs] using hr) (by simpa [StkIs] using hs) (by simpa [AccIs] using hn)) ?_
  rintro S1 ⟨ht1, hb1, hk1, hc1⟩ hM1
  simp [ht1]
  exact hk _ (Fr.here (fun n hn => by simp [hb1 n hn, ne_of_Lm hn, Lm]) (fun n hn => by first | rfl | simp [hk1 n hn, ne_of_Lm hn, Lm]) (by simp at hc1 ⊢; omega)) hM1.to
theorem do20_v (F : Fx) (st : Nat) (m : Mach) (i : Ins) (hop : i.op = 20) (hpc : 0 ≤ m.pc ∧ m.pc < 1000) (hl : m.st.length < 900) {S : St} {k : AV → St → Prop} {u : Dep k} (h : MS F st m S)
    (hk : ∀ S', Fr Lm S S' → MS F st { m with pc := i.a } S' → k (iv 0) S') : CallG Try.prog (.fn 98 []) [.ptr 84026 st 14 0 0, i.av] S k u := by
  refine callV mdo_get (by simp) (by simp) ?_
  unfold mdo_c
  obtain ⟨r, sk, nt, hb, hr, hs, hn⟩ := h
  have ws : IntKind.i64.wrap (m.pc + 1) = m.pc + 1 := wrap_in _ (by omega) (by omega)
  simp [hb, hop, ws]
  exact hk _ (Fr.here (fun n hn => by simp [ne_of_Lm hn, Lm]) (fun n hn => by first | rfl | simp [ne_of_Lm hn, Lm]) (by omega)) (MS.mk' (upd_same _ _ _) (by simpa [RegIs] using hr) (by simpa [StkIs] using hs) (by simpa [AccIs] using hn))
theorem do24_v (F : Fx) (st : Nat) (m : Mach) (i : Ins) (hop : i.op = 24) (hpc : 0 ≤ m.pc ∧ m.pc < 1000) (hl : m.st.length < 900) {S : St} {k : AV → St → Prop} {u : Dep k} (h : MS F st m S)
    (hk : ∀ S', Fr Lm S S' → MS F st { m with pc := m.pc + 1, armed := false } S' → k (iv 0) S') : CallG Try.prog (.fn 98 []) [.ptr 84026 st 14 0 0, i.av] S k u := by
  refine callV mdo_get (by simp) (by simp) ?_
  unfold mdo_c
  obtain ⟨r, sk, nt, hb, hr, hs, hn⟩ := h
  have ws : IntKind.i64.wrap (m.pc + 1) = m.pc + 1 := wrap_in _ (by omega) (by omega)
  simp [hb, hop, ws]
  exact hk _ (Fr.here (fun n hn => by simp [ne_of_Lm hn, Lm]) (fun n hn => by first | rfl | simp [ne_of_Lm hn, Lm]) (by omega)) (MS.mk' (upd_same _ _ _) (by simpa [RegIs] using hr) (by simpa [StkIs] using hs) (by simpa [AccIs] using hn))
theorem do25_v (F : Fx) (st : Nat) (m : Mach) (i : Ins) (hop : i.op = 25) (hpc : 0 ≤ m.pc ∧ m.pc < 1000) (hl : m.st.length < 900) {S : St} {k : AV → St → Prop} {u : Dep k} (h : MS F st m S)
    (hk : ∀ S', Fr Lm S S' → MS F st { m with pc := -1 } S' → k (iv 0) S') : CallG Try.prog (.fn 98 []) [.ptr 84026 st 14 0 0, i.av] S k u := by
  refine callV mdo_get (by simp) (by simp) ?_
  unfold mdo_c
  obtain ⟨r, sk, nt, hb, hr, hs, hn⟩ := h
  have ws : IntKind.i64.wrap (m.pc + 1) = m.pc + 1 := wrap_in _ (by omega) (by omega)
  simp [hb, hop, ws]
  exact hk _ (Fr.here (fun n hn => by simp [ne_of_Lm hn, Lm]) (fun n hn => by first | rfl | simp [ne_of_Lm hn, Lm]) (by omega)) (MS.mk' (upd_same _ _ _) (by simpa [RegIs] using hr) (by simpa [StkIs] using hs) (by simpa [AccIs] using hn))

end Go.Gv

/- What vm's machine does at an instruction, the other ones. -/
set_option linter.unusedVariables false
set_option linter.unusedSimpArgs false
namespace Go.Gv
open Go.Proofs

theorem regpop_v (F : Fx) (st : Nat) (m : Mach) (i : Ins) (h6 : i.op = 6) (h1 : 1 ≤ m.st.length) (hn1 : ¬ i.a < m.regs.length) (hl : m.st.length < 900) {S : St} {k : AV → St → Prop} {u : Dep k} (h : MS F st m S)
    (hk : ∀ S', Fr Lm S S' → MS F st { m with st := m.st.dropLast } S' → k (.tup []) S') : CallG Try.prog (.fn 109 []) [.ptr 84026 st 14 0 0, i.av] S k u := by
  refine callV mreg_get (by simp) (by simp) ?_
  unfold mreg_c
  obtain ⟨r, sk, nt, hb, hr, hs, hn⟩ := h
  have hrl := hr.len
  simp [hb, hrl, hn1, h6]
  refine pop_v F st m m.st.dropLast (top m.st) (top_split h1) (by simp; omega) (MS.to ⟨r, sk, nt, hb, hr, hs, hn⟩) ?_
  rintro S1 ⟨ht1, hb1, hk1, hc1⟩ hM1
  simp [ht1]
  exact hk _ (Fr.here (fun n hn => by simp [hb1 n hn, ne_of_Lm hn, Lm]) (fun n hn => by first | rfl | simp [hk1 n hn, ne_of_Lm hn, Lm]) (by simp at hc1 ⊢; omega)) hM1.to
theorem do6_v (F : Fx) (st : Nat) (m : Mach) (i : Ins) (hop : i.op = 6) (h1 : 1 ≤ m.st.length) (ha : 0 ≤ i.a) (hr8 : m.regs.length ≤ 1000) (hpc : 0 ≤ m.pc ∧ m.pc < 1000) (hl : m.st.length < 900) {S : St} {k : AV → St → Prop} {u : Dep k} (h : MS F st m S)
    (hk : ∀ S', Fr Lm S S' → MS F st { m with pc := m.pc + 1, st := m.st.dropLast, regs := if i.a < m.regs.length then m.regs.set i.a.toNat (top m.st) else m.regs } S' → k (iv 0) S') : CallG Try.prog (.fn 98 []) [.ptr 84026 st 14 0 0, i.av] S k u := by
  refine callV mdo_get (by simp) (by simp) ?_
  unfold mdo_c
  obtain ⟨r, sk, nt, hb, hr, hs, hn⟩ := h
  have ws : IntKind.i64.wrap (m.pc + 1) = m.pc + 1 := wrap_in _ (by omega) (by omega)
  simp [hb, hop, ws]
  by_cases hlt : i.a < m.regs.length
  · rw [if_pos hlt] at hk
    refine regstore_v F st { m with pc := m.pc + 1 } ⟨6, i.a⟩ rfl m.st.dropLast (top m.st) (top_split h1) ha hlt hr8 (by simp; omega) (MS.mk' (upd_same _ _ _) (by simpa [RegIs] using hr) (by simpa [StkIs] using hs) (by simpa [AccIs] using hn)) ?_
    rintro S1 ⟨ht1, hb1, hk1, hc1⟩ hM1
    simp [ht1]
    exact hk _ (Fr.here (fun n hn => by simp [hb1 n hn, ne_of_Lm hn, Lm]) (fun n hn => by first | rfl | simp [hk1 n hn, ne_of_Lm hn, Lm]) (by simp at hc1 ⊢; omega)) hM1.to
  · rw [if_neg hlt] at hk
    refine regpop_v F st { m with pc := m.pc + 1 } ⟨6, i.a⟩ rfl h1 hlt hl (MS.mk' (upd_same _ _ _) (by simpa [RegIs] using hr) (by simpa [StkIs] using hs) (by simpa [AccIs] using hn)) ?_
    rintro S1 ⟨ht1, hb1, hk1, hc1⟩ hM1
    simp [ht1]
    exact hk _ (Fr.here (fun n hn => by simp [hb1 n hn, ne_of_Lm hn, Lm]) (fun n hn => by first | rfl | simp [hk1 n hn, ne_of_Lm hn, Lm]) (by simp at hc1 ⊢; omega)) hM1.to
theorem do21_v (F : Fx) (st : Nat) (m : Mach) (i : Ins) (hop : i.op = 21) (h1 : 1 ≤ m.st.length) (hpc : 0 ≤ m.pc ∧ m.pc < 1000) (hl : m.st.length < 900) {S : St} {k : AV → St → Prop} {u : Dep k} (h : MS F st m S)
    (hk : ∀ S', Fr Lm S S' → MS F st { m with pc := if top m.st = 0 then i.a else m.pc + 1, st := m.st.dropLast } S' → k (iv 0) S') : CallG Try.prog (.fn 98 []) [.ptr 84026 st 14 0 0, i.av] S k u := by
  refine callV mdo_get (by simp) (by simp) ?_
  unfold mdo_c
  obtain ⟨r, sk, nt, hb, hr, hs, hn⟩ := h
  have ws : IntKind.i64.wrap (m.pc + 1) = m.pc + 1 := wrap_in _ (by omega) (by omega)
  obtain ⟨s2, es, q1, q2, q3, q4⟩ := hs.last h1
  have htk : es.take m.st.dropLast.length = m.st.dropLast.map iv := by
    rcases hs with ⟨_, e⟩ | ⟨s2', es', e1, e2, e3, e4⟩
    · rw [e] at h1; simp at h1
    · rw [q2] at e2; cases e2
      have := congrArg (List.take m.st.dropLast.length) e4
      rw [List.take_take, Nat.min_eq_left (by simp)] at this
      rw [this, List.dropLast_eq_take, List.map_take]; simp
  have hlen : m.st.length = m.st.dropLast.length + 1 := by simp; omega
  rw [q1, hlen] at hb
  rw [hlen] at q3
  rw [show m.st.length - 1 = m.st.dropLast.length by simp] at q4
  have hl' : m.st.dropLast.length < 1000 := by simp; omega
  generalize hq : m.st.dropLast = xs at *
  simp [hb, hop, ws]
  refine pop_x (s1 := s2) (es := es) hl' (by dsimp only; exact upd_same _ _ _) (by simp [q2]) q3 q4 ?_
  by_cases hz : top m.st = 0
  · rw [if_pos hz] at hk
    simp [hz]
    refine hk _ (Fr.here (fun n hn => by simp [ne_of_Lm hn, Lm]) (fun n hn => by first | rfl | simp [ne_of_Lm hn, Lm]) (by omega)) (MS.mk' (upd_same _ _ _) (by simpa [RegIs] using hr) (.inr ⟨s2, es, rfl, by simp [q2], by simp only []; omega, htk⟩) (by simpa [AccIs] using hn))
  · rw [if_neg hz] at hk
    simp [hz]
    refine hk _ (Fr.here (fun n hn => by simp [ne_of_Lm hn, Lm]) (fun n hn => by first | rfl | simp [ne_of_Lm hn, Lm]) (by omega)) (MS.mk' (upd_same _ _ _) (by simpa [RegIs] using hr) (.inr ⟨s2, es, rfl, by simp [q2], by simp only []; omega, htk⟩) (by simpa [AccIs] using hn))
theorem do23_v (F : Fx) (st : Nat) (m : Mach) (i : Ins) (hop : i.op = 23) (hw : 0 ≤ F.who) (x : Actr) (hx : F.p.as[F.who.toNat]? = some x) (hpc : 0 ≤ m.pc ∧ m.pc < 1000) (hl : m.st.length < 900) {S : St} {k : AV → St → Prop} {u : Dep k} (h : MS F st m S)
    (hk : ∀ S', Fr Lm S S' → MS F st { m with pc := m.pc + 1, armed := m.armed || !decide (x.timer = -1) } S' → k (iv 0) S') : CallG Try.prog (.fn 98 []) [.ptr 84026 st 14 0 0, i.av] S k u := by
  refine callV mdo_get (by simp) (by simp) ?_
  unfold mdo_c
  obtain ⟨r, sk, nt, hb, hr, hs, hn⟩ := h
  have ws : IntKind.i64.wrap (m.pc + 1) = m.pc + 1 := wrap_in _ (by omega) (by omega)
  have hj : F.who.toNat < F.p.as.length := (List.getElem?_eq_some_iff.1 hx).1
  have hx' : F.p.as[F.who.toNat] = x := (List.getElem?_eq_some_iff.1 hx).2
  cases har : m.armed with
  | true =>
    simp [hb, hop, ws, har]
    refine hk _ (Fr.here (fun n hn => by simp [ne_of_Lm hn, Lm]) (fun n hn => by first | rfl | simp [ne_of_Lm hn, Lm]) (by omega)) (MS.mk' (by simp [har]; exact ⟨rfl, rfl, rfl⟩) (by simpa [RegIs] using hr) (by simpa [StkIs] using hs) (by simpa [AccIs] using hn))
  | false =>
    simp [hb, hop, ws, har, hw, hj, hx']
    refine hk _ (Fr.here (fun n hn => by simp [ne_of_Lm hn, Lm]) (fun n hn => by first | rfl | simp [ne_of_Lm hn, Lm]) (by omega)) (MS.mk' ?_ (by simpa [RegIs] using hr) (by simpa [StkIs] using hs) (by simpa [AccIs] using hn))
    simp [har]
theorem doc1_v (F : Fx) (st : Nat) (m : Mach) (i : Ins) (hop : 9 ≤ i.op ∧ i.op ≤ 19) (h1 : 1 ≤ m.st.length) (ho : (oneV i.op (top m.st)).2 = true) (hpc : 0 ≤ m.pc ∧ m.pc < 1000) (hl : m.st.length < 900) {S : St} {k : AV → St → Prop} {u : Dep k} (h : MS F st m S)
    (hk : ∀ S', Fr Lm S S' → MS F st { m with pc := m.pc + 1, st := m.st.dropLast ++ [(oneV i.op (top m.st)).1] } S' → k (iv 0) S') : CallG Try.prog (.fn 98 []) [.ptr 84026 st 14 0 0, i.av] S k u := by
  refine callV mdo_get (by simp) (by simp) ?_
  unfold mdo_c
  obtain ⟨r, sk, nt, hb, hr, hs, hn⟩ := h
  have ws : IntKind.i64.wrap (m.pc + 1) = m.pc + 1 := wrap_in _ (by omega) (by omega)
  simp [hb, ws, show i.op ≠ 1 by omega, show i.op ≠ 2 by omega, show i.op ≠ 3 by omega, show i.op ≠ 4 by omega, show i.op ≠ 5 by omega, show i.op ≠ 6 by omega, show i.op ≠ 7 by omega, show i.op ≠ 8 by omega, show i.op ≠ 20 by omega, show i.op ≠ 21 by omega, show i.op ≠ 22 by omega, show i.op ≠ 23 by omega, show i.op ≠ 24 by omega, show i.op ≠ 25 by omega]
  refine count1_v F st { m with pc := m.pc + 1 } i.op m.st.dropLast (top m.st) (top_split h1) (by simp; omega) ho (MS.mk' (upd_same _ _ _) (by simpa [RegIs] using hr) (by simpa [StkIs] using hs) (by simpa [AccIs] using hn)) ?_
  rintro S1 ⟨ht1, hb1, hk1, hc1⟩ hM1
  simp [ht1]
  exact hk _ (Fr.here (fun n hn => by simp [hb1 n hn, ne_of_Lm hn, Lm]) (fun n hn => by first | rfl | simp [hk1 n hn, ne_of_Lm hn, Lm]) (by simp at hc1 ⊢; omega)) hM1.to
theorem doc2_v (F : Fx) (st : Nat) (m : Mach) (i : Ins) (hop : 9 ≤ i.op ∧ i.op ≤ 19) (h1 : 2 ≤ m.st.length) (ho : (oneV i.op (top m.st)).2 = false) (hpc : 0 ≤ m.pc ∧ m.pc < 1000) (hl : m.st.length < 900) {S : St} {k : AV → St → Prop} {u : Dep k} (h : MS F st m S)
    (hk : ∀ S', Fr Lm S S' → MS F st { m with pc := m.pc + 1, st := m.st.dropLast.dropLast ++ [(twoV i.op (top m.st.dropLast) (top m.st)).1] } S' → k (iv (twoV i.op (top m.st.dropLast) (top m.st)).2) S') : CallG Try.prog (.fn 98 []) [.ptr 84026 st 14 0 0, i.av] S k u := by
  refine callV mdo_get (by simp) (by simp) ?_
  unfold mdo_c
  obtain ⟨r, sk, nt, hb, hr, hs, hn⟩ := h
  have ws : IntKind.i64.wrap (m.pc + 1) = m.pc + 1 := wrap_in _ (by omega) (by omega)
  simp [hb, ws, show i.op ≠ 1 by omega, show i.op ≠ 2 by omega, show i.op ≠ 3 by omega, show i.op ≠ 4 by omega, show i.op ≠ 5 by omega, show i.op ≠ 6 by omega, show i.op ≠ 7 by omega, show i.op ≠ 8 by omega, show i.op ≠ 20 by omega, show i.op ≠ 21 by omega, show i.op ≠ 22 by omega, show i.op ≠ 23 by omega, show i.op ≠ 24 by omega, show i.op ≠ 25 by omega]
  refine count2_v F st { m with pc := m.pc + 1 } i.op m.st.dropLast.dropLast (top m.st.dropLast) (top m.st) (top_split2 h1) (by simp; omega) ho (MS.mk' (upd_same _ _ _) (by simpa [RegIs] using hr) (by simpa [StkIs] using hs) (by simpa [AccIs] using hn)) ?_
  rintro S1 ⟨ht1, hb1, hk1, hc1⟩ hM1
  simp [ht1]
  exact hk _ (Fr.here (fun n hn => by simp [hb1 n hn, ne_of_Lm hn, Lm]) (fun n hn => by first | rfl | simp [hk1 n hn, ne_of_Lm hn, Lm]) (by simp at hc1 ⊢; omega)) hM1.to
theorem do22_v (F : Fx) (st : Nat) (m : Mach) (i : Ins) (hop : i.op = 22) (xs bs : List Int) (to : Int) (hx : m.st = xs ++ bs ++ [to]) (ha : 0 ≤ i.a) (x : Hnd) (hh : F.p.hs[i.a.toNat]? = some x) (hargs : x.args = bs.length) (hnl : m.notes.length < 1000) (hpc : 0 ≤ m.pc ∧ m.pc < 1000) (hl : m.st.length < 900) {S : St} {k : AV → St → Prop} {u : Dep k} (h : MS F st m S)
    (hz1 : (to < 0 ∨ to ≥ F.p.as.length) → ∀ S', Fr Lm S S' → MS F st { m with pc := m.pc + 1, st := xs ++ bs } S' → k (iv 4) S')
    (hz2 : ¬ (to < 0 ∨ to ≥ F.p.as.length) → ∀ S', Fr Lm S S' → MS F st { m with pc := m.pc + 1, st := xs, notes := m.notes ++ [⟨to, i.a, bs⟩] } S' → k (iv 0) S') : CallG Try.prog (.fn 98 []) [.ptr 84026 st 14 0 0, i.av] S k u := by
  refine callV mdo_get (by simp) (by simp) ?_
  unfold mdo_c
  obtain ⟨r, sk, nt, hb, hr, hs, hn⟩ := h
  have ws : IntKind.i64.wrap (m.pc + 1) = m.pc + 1 := wrap_in _ (by omega) (by omega)
  simp [hb, hop, ws]
  have hll : (xs ++ bs).length < 900 := by rw [hx] at hl; simp at hl ⊢; omega
  refine send_v F st { m with pc := m.pc + 1 } i.a xs bs to hx ha x hh hargs hll hnl (MS.mk' (upd_same _ _ _) (by simpa [RegIs] using hr) (by simpa [StkIs] using hs) (by simpa [AccIs] using hn)) ?_ ?_
  · intro hc
    rintro S1 ⟨ht1, hb1, hk1, hc1⟩ hM1
    simp [ht1]
    exact hz1 hc _ (Fr.here (fun n hn => by simp [hb1 n hn, ne_of_Lm hn, Lm]) (fun n hn => by first | rfl | simp [hk1 n hn, ne_of_Lm hn, Lm]) (by simp at hc1 ⊢; omega)) hM1.to
  · intro hc
    rintro S1 ⟨ht1, hb1, hk1, hc1⟩ hM1
    simp [ht1]
    exact hz2 hc _ (Fr.here (fun n hn => by simp [hb1 n hn, ne_of_Lm hn, Lm]) (fun n hn => by first | rfl | simp [hk1 n hn, ne_of_Lm hn, Lm]) (by simp at hc1 ⊢; omega)) hM1.to

end Go.Gv

/- What the parts of flow (chapter 4) answer: how many numbers an instruction takes and puts, what may come behind it. No condition beyond those that each law names. -/
set_option linter.unusedVariables false
set_option linter.unusedSimpArgs false
namespace Go.Gv
open Go.Proofs

def valid1_r0 : List AI := [⟨(some 2), none, (.op (.mv (.c (.bool false))))⟩]
def valid1_r1 : List AI := [⟨(some 3), none, (.op (.mv (.t 0)))⟩, ⟨(some 4), none, (.op (.ibin .geq (.t 3) (.c (.int .i64 1))))⟩, ⟨(some 5), none, (.op (.mv (.t 4)))⟩, ⟨(some 6), (some (5, true)), (.op (.mv (.t 0)))⟩, ⟨(some 7), (some (5, true)), (.op (.ibin .leq (.t 6) (.c (.int .i64 25))))⟩, ⟨(some 8), none, (.op (.pick (.t 5) (.t 7) (.c (.bool false))))⟩, ⟨(some 2), none, (.op (.mv (.t 8)))⟩]
def valid1_c : AC := (.seq (.reg valid1_r0) (.seq (.reg valid1_r1) .ret))
def valid1_res : List ARes := [(.tmp 2)]
set_option maxRecDepth 100000 in
theorem valid1_get : getF Try.prog 96 104100 [] = some ("gavotte/gavotteref1.Valid", 9, valid1_c, valid1_res) := by kernel_rfl
def pops_r0 : List AI := [⟨(some 2), none, (.op (.mv (.c (.int .i64 0))))⟩]
def pops_r1 : List AI := [⟨(some 4), none, (.op (.mv (.t 0)))⟩, ⟨(some 5), none, (.op (.ibin .eql (.t 4) (.c (.int .i64 4))))⟩, ⟨(some 3), none, (.op (.mv (.t 5)))⟩]
def pops_r2 : List AI := [⟨(some 6), none, (.op (.mv (.t 0)))⟩, ⟨(some 7), none, (.op (.ibin .geq (.t 6) (.c (.int .i64 9))))⟩, ⟨(some 8), none, (.op (.mv (.t 7)))⟩, ⟨(some 9), (some (8, true)), (.op (.mv (.t 0)))⟩, ⟨(some 10), (some (8, true)), (.op (.ibin .leq (.t 9) (.c (.int .i64 13))))⟩, ⟨(some 11), none, (.op (.pick (.t 8) (.t 10) (.c (.bool false))))⟩, ⟨(some 3), none, (.op (.mv (.t 11)))⟩]
def pops_r3 : List AI := [⟨(some 12), none, (.op (.mv (.t 0)))⟩, ⟨(some 13), none, (.op (.ibin .geq (.t 12) (.c (.int .i64 15))))⟩, ⟨(some 14), none, (.op (.mv (.t 13)))⟩, ⟨(some 15), (some (14, true)), (.op (.mv (.t 0)))⟩, ⟨(some 16), (some (14, true)), (.op (.ibin .leq (.t 15) (.c (.int .i64 18))))⟩, ⟨(some 17), none, (.op (.pick (.t 14) (.t 16) (.c (.bool false))))⟩, ⟨(some 3), none, (.op (.mv (.t 17)))⟩]
def pops_r4 : List AI := [⟨(some 2), none, (.op (.mv (.c (.int .i64 2))))⟩]
def pops_r5 : List AI := [⟨(some 19), none, (.op (.mv (.t 0)))⟩, ⟨(some 20), none, (.op (.ibin .eql (.t 19) (.c (.int .i64 2))))⟩, ⟨(some 18), none, (.op (.mv (.t 20)))⟩]
def pops_r6 : List AI := [⟨(some 21), none, (.op (.mv (.t 0)))⟩, ⟨(some 22), none, (.op (.ibin .eql (.t 21) (.c (.int .i64 3))))⟩, ⟨(some 18), none, (.op (.mv (.t 22)))⟩]
def pops_r7 : List AI := [⟨(some 23), none, (.op (.mv (.t 0)))⟩, ⟨(some 24), none, (.op (.ibin .eql (.t 23) (.c (.int .i64 6))))⟩, ⟨(some 18), none, (.op (.mv (.t 24)))⟩]
def pops_r8 : List AI := [⟨(some 25), none, (.op (.mv (.t 0)))⟩, ⟨(some 26), none, (.op (.ibin .eql (.t 25) (.c (.int .i64 14))))⟩, ⟨(some 18), none, (.op (.mv (.t 26)))⟩]
def pops_r9 : List AI := [⟨(some 27), none, (.op (.mv (.t 0)))⟩, ⟨(some 28), none, (.op (.ibin .eql (.t 27) (.c (.int .i64 19))))⟩, ⟨(some 18), none, (.op (.mv (.t 28)))⟩]
def pops_r10 : List AI := [⟨(some 29), none, (.op (.mv (.t 0)))⟩, ⟨(some 30), none, (.op (.ibin .eql (.t 29) (.c (.int .i64 21))))⟩, ⟨(some 18), none, (.op (.mv (.t 30)))⟩]
def pops_r11 : List AI := [⟨(some 31), none, (.op (.mv (.t 0)))⟩, ⟨(some 32), none, (.op (.ibin .eql (.t 31) (.c (.int .i64 22))))⟩, ⟨(some 18), none, (.op (.mv (.t 32)))⟩]
def pops_r12 : List AI := [⟨(some 2), none, (.op (.mv (.c (.int .i64 1))))⟩]
def pops_r13 : List AI := [⟨(some 2), none, (.op (.mv (.c (.int .i64 0))))⟩]
def pops_c : AC := (.seq (.reg pops_r0) (.seq (.block 0 (.seq (.seq (.reg pops_r1) (.cond (.t 3) .skip (.seq (.reg pops_r2) (.cond (.t 3) .skip (.reg pops_r3))))) (.cond (.t 3) (.seq (.reg pops_r4) .ret) (.seq (.seq (.reg pops_r5) (.cond (.t 18) .skip (.seq (.reg pops_r6) (.cond (.t 18) .skip (.seq (.reg pops_r7) (.cond (.t 18) .skip (.seq (.reg pops_r8) (.cond (.t 18) .skip (.seq (.reg pops_r9) (.cond (.t 18) .skip (.seq (.reg pops_r10) (.cond (.t 18) .skip (.reg pops_r11))))))))))))) (.cond (.t 18) (.seq (.reg pops_r12) .ret) .skip))))) (.seq (.reg pops_r13) .ret)))
def pops_res : List ARes := [(.tmp 2)]
set_option maxRecDepth 100000 in
theorem pops_get : getF Try.prog 106 106000 [] = some ("gavotte/ops.Pops", 33, pops_c, pops_res) := by kernel_rfl
def puts_r0 : List AI := [⟨(some 2), none, (.op (.mv (.c (.int .i64 0))))⟩]
def puts_r1 : List AI := [⟨(some 4), none, (.op (.mv (.t 0)))⟩, ⟨(some 5), none, (.op (.ibin .eql (.t 4) (.c (.int .i64 3))))⟩, ⟨(some 3), none, (.op (.mv (.t 5)))⟩]
def puts_r2 : List AI := [⟨(some 6), none, (.op (.mv (.t 0)))⟩, ⟨(some 7), none, (.op (.ibin .eql (.t 6) (.c (.int .i64 4))))⟩, ⟨(some 3), none, (.op (.mv (.t 7)))⟩]
def puts_r3 : List AI := [⟨(some 2), none, (.op (.mv (.c (.int .i64 2))))⟩]
def puts_r4 : List AI := [⟨(some 9), none, (.op (.mv (.t 0)))⟩, ⟨(some 10), none, (.op (.ibin .eql (.t 9) (.c (.int .i64 1))))⟩, ⟨(some 8), none, (.op (.mv (.t 10)))⟩]
def puts_r5 : List AI := [⟨(some 11), none, (.op (.mv (.t 0)))⟩, ⟨(some 12), none, (.op (.ibin .eql (.t 11) (.c (.int .i64 5))))⟩, ⟨(some 8), none, (.op (.mv (.t 12)))⟩]
def puts_r6 : List AI := [⟨(some 13), none, (.op (.mv (.t 0)))⟩, ⟨(some 14), none, (.op (.ibin .eql (.t 13) (.c (.int .i64 7))))⟩, ⟨(some 8), none, (.op (.mv (.t 14)))⟩]
def puts_r7 : List AI := [⟨(some 15), none, (.op (.mv (.t 0)))⟩, ⟨(some 16), none, (.op (.ibin .eql (.t 15) (.c (.int .i64 8))))⟩, ⟨(some 8), none, (.op (.mv (.t 16)))⟩]
def puts_r8 : List AI := [⟨(some 17), none, (.op (.mv (.t 0)))⟩, ⟨(some 18), none, (.op (.ibin .geq (.t 17) (.c (.int .i64 9))))⟩, ⟨(some 19), none, (.op (.mv (.t 18)))⟩, ⟨(some 20), (some (19, true)), (.op (.mv (.t 0)))⟩, ⟨(some 21), (some (19, true)), (.op (.ibin .leq (.t 20) (.c (.int .i64 19))))⟩, ⟨(some 22), none, (.op (.pick (.t 19) (.t 21) (.c (.bool false))))⟩, ⟨(some 8), none, (.op (.mv (.t 22)))⟩]
def puts_r9 : List AI := [⟨(some 2), none, (.op (.mv (.c (.int .i64 1))))⟩]
def puts_r10 : List AI := [⟨(some 2), none, (.op (.mv (.c (.int .i64 0))))⟩]
def puts_c : AC := (.seq (.reg puts_r0) (.seq (.block 0 (.seq (.seq (.reg puts_r1) (.cond (.t 3) .skip (.reg puts_r2))) (.cond (.t 3) (.seq (.reg puts_r3) .ret) (.seq (.seq (.reg puts_r4) (.cond (.t 8) .skip (.seq (.reg puts_r5) (.cond (.t 8) .skip (.seq (.reg puts_r6) (.cond (.t 8) .skip (.seq (.reg puts_r7) (.cond (.t 8) .skip (.reg puts_r8))))))))) (.cond (.t 8) (.seq (.reg puts_r9) .ret) .skip))))) (.seq (.reg puts_r10) .ret)))
def puts_res : List ARes := [(.tmp 2)]
set_option maxRecDepth 100000 in
theorem puts_get : getF Try.prog 94 94000 [] = some ("gavotte/ops.Puts", 23, puts_c, puts_res) := by kernel_rfl
def rpops_r0 : List AI := [⟨(some 2), none, (.op (.mv (.c (.int .i64 0))))⟩]
def rpops_r1 : List AI := [⟨(some 3), none, (.op (.mv (.t 0)))⟩, ⟨(some 4), none, (.call (.c (.fn 96 [])) [(.t 3)])⟩, ⟨(some 5), none, (.op (.not (.t 4)))⟩]
def rpops_r2 : List AI := [⟨(some 2), none, (.op (.mv (.c (.int .i64 0))))⟩]
def rpops_r3 : List AI := [⟨(some 6), none, (.op (.bsl 82006 1 3 26 (.int .i64 0) [(0, (.c (.int .i64 0))), (1, (.c (.int .i64 0))), (2, (.c (.int .i64 1))), (3, (.c (.int .i64 1))), (4, (.c (.int .i64 2))), (5, (.c (.int .i64 0))), (6, (.c (.int .i64 1))), (7, (.c (.int .i64 0))), (8, (.c (.int .i64 0))), (9, (.c (.int .i64 2))), (10, (.c (.int .i64 2))), (11, (.c (.int .i64 2))), (12, (.c (.int .i64 2))), (13, (.c (.int .i64 2))), (14, (.c (.int .i64 1))), (15, (.c (.int .i64 2))), (16, (.c (.int .i64 2))), (17, (.c (.int .i64 2))), (18, (.c (.int .i64 2))), (19, (.c (.int .i64 1))), (20, (.c (.int .i64 0))), (21, (.c (.int .i64 1))), (22, (.c (.int .i64 1))), (23, (.c (.int .i64 0))), (24, (.c (.int .i64 0))), (25, (.c (.int .i64 0)))]))⟩, ⟨(some 7), none, (.op (.mv (.t 0)))⟩, ⟨(some 8), none, (.op (.idx 1 (.t 6) (.t 7)))⟩, ⟨(some 9), none, (.op (.load none (.t 8)))⟩, ⟨(some 2), none, (.op (.mv (.t 9)))⟩]
def rpops_c : AC := (.seq (.reg rpops_r0) (.seq (.seq (.reg rpops_r1) (.cond (.t 5) (.seq (.reg rpops_r2) .ret) .skip)) (.seq (.reg rpops_r3) .ret)))
def rpops_res : List ARes := [(.tmp 2)]
set_option maxRecDepth 100000 in
theorem rpops_get : getF Try.prog 82 82000 [] = some ("gavotte/gavotteref1.Pops", 10, rpops_c, rpops_res) := by kernel_rfl
def rputs_r0 : List AI := [⟨(some 2), none, (.op (.mv (.c (.int .i64 0))))⟩]
def rputs_r1 : List AI := [⟨(some 3), none, (.op (.mv (.t 0)))⟩, ⟨(some 4), none, (.call (.c (.fn 96 [])) [(.t 3)])⟩, ⟨(some 5), none, (.op (.not (.t 4)))⟩]
def rputs_r2 : List AI := [⟨(some 2), none, (.op (.mv (.c (.int .i64 0))))⟩]
def rputs_r3 : List AI := [⟨(some 6), none, (.op (.bsl 83006 1 3 26 (.int .i64 0) [(0, (.c (.int .i64 0))), (1, (.c (.int .i64 1))), (2, (.c (.int .i64 0))), (3, (.c (.int .i64 2))), (4, (.c (.int .i64 2))), (5, (.c (.int .i64 1))), (6, (.c (.int .i64 0))), (7, (.c (.int .i64 1))), (8, (.c (.int .i64 1))), (9, (.c (.int .i64 1))), (10, (.c (.int .i64 1))), (11, (.c (.int .i64 1))), (12, (.c (.int .i64 1))), (13, (.c (.int .i64 1))), (14, (.c (.int .i64 1))), (15, (.c (.int .i64 1))), (16, (.c (.int .i64 1))), (17, (.c (.int .i64 1))), (18, (.c (.int .i64 1))), (19, (.c (.int .i64 1))), (20, (.c (.int .i64 0))), (21, (.c (.int .i64 0))), (22, (.c (.int .i64 0))), (23, (.c (.int .i64 0))), (24, (.c (.int .i64 0))), (25, (.c (.int .i64 0)))]))⟩, ⟨(some 7), none, (.op (.mv (.t 0)))⟩, ⟨(some 8), none, (.op (.idx 1 (.t 6) (.t 7)))⟩, ⟨(some 9), none, (.op (.load none (.t 8)))⟩, ⟨(some 2), none, (.op (.mv (.t 9)))⟩]
def rputs_c : AC := (.seq (.reg rputs_r0) (.seq (.seq (.reg rputs_r1) (.cond (.t 5) (.seq (.reg rputs_r2) .ret) .skip)) (.seq (.reg rputs_r3) .ret)))
def rputs_res : List ARes := [(.tmp 2)]
set_option maxRecDepth 100000 in
theorem rputs_get : getF Try.prog 83 83000 [] = some ("gavotte/gavotteref1.Puts", 10, rputs_c, rputs_res) := by kernel_rfl
def takes_r0 : List AI := [⟨(some 2), none, (.op (.box 93002 4 (.t 0)))⟩, ⟨(some 3), none, (.op (.box 93003 2 (.t 1)))⟩, ⟨(some 4), none, (.op (.mv (.c (.int .i64 0))))⟩]
def takes_r1 : List AI := [⟨(some 6), none, (.op (.fld 0 (.t 3)))⟩, ⟨(some 7), none, (.op (.load none (.t 6)))⟩, ⟨(some 8), none, (.call (.c (.fn 106 [])) [(.t 7)])⟩, ⟨(some 5), none, (.op (.mv (.t 8)))⟩]
def takes_r2 : List AI := [⟨(some 9), none, (.op (.fld 0 (.t 3)))⟩, ⟨(some 10), none, (.op (.load none (.t 9)))⟩, ⟨(some 11), none, (.op (.ibin .eql (.t 10) (.c (.int .i64 22))))⟩]
def takes_r3 : List AI := [⟨(some 12), none, (.op (.mv (.t 5)))⟩, ⟨(some 13), none, (.op (.fld 0 (.t 2)))⟩, ⟨(some 14), none, (.op (.load none (.t 13)))⟩, ⟨(some 15), none, (.op (.fld 1 (.t 3)))⟩, ⟨(some 16), none, (.op (.load none (.t 15)))⟩, ⟨(some 17), none, (.op (.idx 2 (.t 14) (.t 16)))⟩, ⟨(some 18), none, (.op (.fld 0 (.t 17)))⟩, ⟨(some 19), none, (.op (.load none (.t 18)))⟩, ⟨(some 20), none, (.op (.ibin .add (.t 12) (.t 19)))⟩, ⟨(some 5), none, (.op (.mv (.t 20)))⟩]
def takes_r4 : List AI := [⟨(some 21), none, (.op (.mv (.t 5)))⟩, ⟨(some 4), none, (.op (.mv (.t 21)))⟩]
def takes_c : AC := (.seq (.reg takes_r0) (.seq (.reg takes_r1) (.seq (.seq (.reg takes_r2) (.cond (.t 11) (.reg takes_r3) .skip)) (.seq (.reg takes_r4) .ret))))
def takes_res : List ARes := [(.tmp 4)]
set_option maxRecDepth 100000 in
theorem takes_get : getF Try.prog 93 93000 [] = some ("gavotte/flow.takes", 22, takes_c, takes_res) := by kernel_rfl
def next_r0 : List AI := [⟨(some 3), none, (.op (.box 95003 2 (.t 1)))⟩, ⟨(some 4), none, (.op (.mv (.c .nils)))⟩]
def next_r1 : List AI := [⟨(some 5), none, (.op (.fld 0 (.t 3)))⟩, ⟨(some 6), none, (.op (.load none (.t 5)))⟩]
def next_r2 : List AI := [⟨(some 8), none, (.op (.ibin .eql (.t 6) (.c (.int .i64 20))))⟩, ⟨(some 7), none, (.op (.mv (.t 8)))⟩]
def next_r3 : List AI := [⟨(some 9), none, (.op (.fld 1 (.t 3)))⟩, ⟨(some 10), none, (.op (.load none (.t 9)))⟩, ⟨(some 11), none, (.op (.bsl 95011 1 3 1 (.int .i64 0) [(0, (.t 10))]))⟩, ⟨(some 4), none, (.op (.mv (.t 11)))⟩]
def next_r4 : List AI := [⟨(some 13), none, (.op (.ibin .eql (.t 6) (.c (.int .i64 21))))⟩, ⟨(some 12), none, (.op (.mv (.t 13)))⟩]
def next_r5 : List AI := [⟨(some 14), none, (.op (.fld 1 (.t 3)))⟩, ⟨(some 15), none, (.op (.load none (.t 14)))⟩, ⟨(some 16), none, (.op (.mv (.t 0)))⟩, ⟨(some 17), none, (.op (.ibin .add (.t 16) (.c (.int .i64 1))))⟩, ⟨(some 18), none, (.op (.bsl 95018 1 3 2 (.int .i64 0) [(0, (.t 15)), (1, (.t 17))]))⟩, ⟨(some 4), none, (.op (.mv (.t 18)))⟩]
def next_r6 : List AI := [⟨(some 20), none, (.op (.ibin .eql (.t 6) (.c (.int .i64 25))))⟩, ⟨(some 19), none, (.op (.mv (.t 20)))⟩]
def next_r7 : List AI := [⟨(some 4), none, (.op (.mv (.c .nils)))⟩]
def next_r8 : List AI := [⟨(some 21), none, (.op (.mv (.t 0)))⟩, ⟨(some 22), none, (.op (.ibin .add (.t 21) (.c (.int .i64 1))))⟩, ⟨(some 23), none, (.op (.bsl 95023 1 3 1 (.int .i64 0) [(0, (.t 22))]))⟩, ⟨(some 4), none, (.op (.mv (.t 23)))⟩]
def next_c : AC := (.seq (.reg next_r0) (.seq (.seq (.reg next_r1) (.block 0 (.seq (.reg next_r2) (.cond (.t 7) (.seq (.reg next_r3) .ret) (.seq (.reg next_r4) (.cond (.t 12) (.seq (.reg next_r5) .ret) (.seq (.reg next_r6) (.cond (.t 19) (.seq (.reg next_r7) .ret) .skip)))))))) (.seq (.reg next_r8) .ret)))
def next_res : List ARes := [(.tmp 4)]
set_option maxRecDepth 100000 in
theorem next_get : getF Try.prog 95 95000 [] = some ("gavotte/flow.next", 24, next_c, next_res) := by kernel_rfl
def mul64_r0 : List AI := [⟨(some 4), none, (.op (.mv (.c (.int .u64 0))))⟩, ⟨(some 5), none, (.op (.mv (.c (.int .u64 0))))⟩]
def mul64_r1 : List AI := [⟨(some 14), none, (.op (.mv (.t 0)))⟩, ⟨(some 15), none, (.op (.ibin .and (.t 14) (.c (.int .u64 4294967295))))⟩, ⟨(some 6), none, (.op (.mv (.t 15)))⟩]
def mul64_r2 : List AI := [⟨(some 16), none, (.op (.mv (.t 0)))⟩, ⟨(some 17), none, (.op (.shift false (.t 16) (.c (.int .u64 32))))⟩, ⟨(some 7), none, (.op (.mv (.t 17)))⟩]
def mul64_r3 : List AI := [⟨(some 18), none, (.op (.mv (.t 1)))⟩, ⟨(some 19), none, (.op (.ibin .and (.t 18) (.c (.int .u64 4294967295))))⟩, ⟨(some 8), none, (.op (.mv (.t 19)))⟩]
def mul64_r4 : List AI := [⟨(some 20), none, (.op (.mv (.t 1)))⟩, ⟨(some 21), none, (.op (.shift false (.t 20) (.c (.int .u64 32))))⟩, ⟨(some 9), none, (.op (.mv (.t 21)))⟩]
def mul64_r5 : List AI := [⟨(some 22), none, (.op (.mv (.t 6)))⟩, ⟨(some 23), none, (.op (.mv (.t 8)))⟩, ⟨(some 24), none, (.op (.ibin .mul (.t 22) (.t 23)))⟩, ⟨(some 10), none, (.op (.mv (.t 24)))⟩]
def mul64_r6 : List AI := [⟨(some 25), none, (.op (.mv (.t 7)))⟩, ⟨(some 26), none, (.op (.mv (.t 8)))⟩, ⟨(some 27), none, (.op (.ibin .mul (.t 25) (.t 26)))⟩, ⟨(some 28), none, (.op (.mv (.t 10)))⟩, ⟨(some 29), none, (.op (.shift false (.t 28) (.c (.int .u64 32))))⟩, ⟨(some 30), none, (.op (.ibin .add (.t 27) (.t 29)))⟩, ⟨(some 11), none, (.op (.mv (.t 30)))⟩]
def mul64_r7 : List AI := [⟨(some 31), none, (.op (.mv (.t 11)))⟩, ⟨(some 32), none, (.op (.ibin .and (.t 31) (.c (.int .u64 4294967295))))⟩, ⟨(some 12), none, (.op (.mv (.t 32)))⟩]
def mul64_r8 : List AI := [⟨(some 33), none, (.op (.mv (.t 11)))⟩, ⟨(some 34), none, (.op (.shift false (.t 33) (.c (.int .u64 32))))⟩, ⟨(some 13), none, (.op (.mv (.t 34)))⟩]
def mul64_r9 : List AI := [⟨(some 35), none, (.op (.mv (.t 12)))⟩, ⟨(some 36), none, (.op (.mv (.t 6)))⟩, ⟨(some 37), none, (.op (.mv (.t 9)))⟩, ⟨(some 38), none, (.op (.ibin .mul (.t 36) (.t 37)))⟩, ⟨(some 39), none, (.op (.ibin .add (.t 35) (.t 38)))⟩, ⟨(some 12), none, (.op (.mv (.t 39)))⟩]
def mul64_r10 : List AI := [⟨(some 40), none, (.op (.mv (.t 7)))⟩, ⟨(some 41), none, (.op (.mv (.t 9)))⟩, ⟨(some 42), none, (.op (.ibin .mul (.t 40) (.t 41)))⟩, ⟨(some 43), none, (.op (.mv (.t 13)))⟩, ⟨(some 44), none, (.op (.ibin .add (.t 42) (.t 43)))⟩, ⟨(some 45), none, (.op (.mv (.t 12)))⟩, ⟨(some 46), none, (.op (.shift false (.t 45) (.c (.int .u64 32))))⟩, ⟨(some 47), none, (.op (.ibin .add (.t 44) (.t 46)))⟩, ⟨(some 4), none, (.op (.mv (.t 47)))⟩]
def mul64_r11 : List AI := [⟨(some 48), none, (.op (.mv (.t 0)))⟩, ⟨(some 49), none, (.op (.mv (.t 1)))⟩, ⟨(some 50), none, (.op (.ibin .mul (.t 48) (.t 49)))⟩, ⟨(some 5), none, (.op (.mv (.t 50)))⟩]
def mul64_c : AC := (.seq (.reg mul64_r0) (.seq (.reg mul64_r1) (.seq (.reg mul64_r2) (.seq (.reg mul64_r3) (.seq (.reg mul64_r4) (.seq (.reg mul64_r5) (.seq (.reg mul64_r6) (.seq (.reg mul64_r7) (.seq (.reg mul64_r8) (.seq (.reg mul64_r9) (.seq (.reg mul64_r10) (.seq (.reg mul64_r11) .ret))))))))))))
def mul64_res : List ARes := [(.tmp 4), (.tmp 5)]
set_option maxRecDepth 100000 in
theorem mul64_get : getF Try.prog 120 120000 [] = some ("math/bits.Mul64", 51, mul64_c, mul64_res) := by kernel_rfl
def mul_r0 : List AI := [⟨(some 4), none, (.op (.mv (.c (.int .u64 0))))⟩, ⟨(some 5), none, (.op (.mv (.c (.int .u64 0))))⟩]
def mul_r1 : List AI := [⟨(some 11), none, (.op (.mv (.t 0)))⟩, ⟨(some 12), none, (.op (.conv .u32 (.t 11)))⟩, ⟨(some 13), none, (.op (.mv (.t 1)))⟩, ⟨(some 14), none, (.op (.conv .u32 (.t 13)))⟩, ⟨(some 15), none, (.call (.c (.fn 119 [])) [(.t 12), (.t 14)])⟩, ⟨(some 10), none, (.op (.mv (.t 15)))⟩, ⟨(some 16), none, (.op (.ext (.t 10) 0))⟩, ⟨(some 17), none, (.op (.ext (.t 10) 1))⟩, ⟨(some 6), none, (.op (.mv (.t 16)))⟩, ⟨(some 7), none, (.op (.mv (.t 17)))⟩]
def mul_r2 : List AI := [⟨(some 18), none, (.op (.mv (.t 6)))⟩, ⟨(some 19), none, (.op (.conv .u64 (.t 18)))⟩, ⟨(some 20), none, (.op (.mv (.t 7)))⟩, ⟨(some 21), none, (.op (.conv .u64 (.t 20)))⟩, ⟨(some 4), none, (.op (.mv (.t 19)))⟩, ⟨(some 5), none, (.op (.mv (.t 21)))⟩]
def mul_r3 : List AI := [⟨(some 23), none, (.op (.mv (.t 0)))⟩, ⟨(some 24), none, (.op (.mv (.t 1)))⟩, ⟨(some 25), none, (.call (.c (.fn 120 [])) [(.t 23), (.t 24)])⟩, ⟨(some 22), none, (.op (.mv (.t 25)))⟩, ⟨(some 26), none, (.op (.ext (.t 22) 0))⟩, ⟨(some 27), none, (.op (.ext (.t 22) 1))⟩, ⟨(some 8), none, (.op (.mv (.t 26)))⟩, ⟨(some 9), none, (.op (.mv (.t 27)))⟩]
def mul_r4 : List AI := [⟨(some 28), none, (.op (.mv (.t 8)))⟩, ⟨(some 29), none, (.op (.mv (.t 9)))⟩, ⟨(some 4), none, (.op (.mv (.t 28)))⟩, ⟨(some 5), none, (.op (.mv (.t 29)))⟩]
def mul_c : AC := (.seq (.reg mul_r0) (.seq (.cond (.c (.bool false)) (.seq (.reg mul_r1) (.seq (.reg mul_r2) .ret)) .skip) (.seq (.reg mul_r3) (.seq (.reg mul_r4) .ret))))
def mul_res : List ARes := [(.tmp 4), (.tmp 5)]
set_option maxRecDepth 100000 in
theorem mul_get : getF Try.prog 105 105000 [] = some ("math/bits.Mul", 30, mul_c, mul_res) := by kernel_rfl
attribute [simp] valid1_r0 valid1_r1 valid1_res pops_r0 pops_r1 pops_r2 pops_r3 pops_r4 pops_r5 pops_r6 pops_r7 pops_r8 pops_r9 pops_r10 pops_r11 pops_r12 pops_r13 pops_res puts_r0 puts_r1 puts_r2 puts_r3 puts_r4 puts_r5 puts_r6 puts_r7 puts_r8 puts_r9 puts_r10 puts_res rpops_r0 rpops_r1 rpops_r2 rpops_r3 rpops_res rputs_r0 rputs_r1 rputs_r2 rputs_r3 rputs_res takes_r0 takes_r1 takes_r2 takes_r3 takes_r4 takes_res next_r0 next_r1 next_r2 next_r3 next_r4 next_r5 next_r6 next_r7 next_r8 next_res mul64_r0 mul64_r1 mul64_r2 mul64_r3 mul64_r4 mul64_r5 mul64_r6 mul64_r7 mul64_r8 mul64_r9 mul64_r10 mul64_r11 mul64_res mul_r0 mul_r1 mul_r2 mul_r3 mul_r4 mul_res

def popsV (n : Int) : Int := if n = 4 ∨ (9 ≤ n ∧ n ≤ 13) ∨ (15 ≤ n ∧ n ≤ 18) then 2 else if n = 2 ∨ n = 3 ∨ n = 6 ∨ n = 14 ∨ n = 19 ∨ n = 21 ∨ n = 22 then 1 else 0
def putsV (n : Int) : Int := if n = 3 ∨ n = 4 then 2 else if n = 1 ∨ n = 5 ∨ n = 7 ∨ n = 8 ∨ (9 ≤ n ∧ n ≤ 19) then 1 else 0
theorem popsV_range (n : Int) : 0 ≤ popsV n ∧ popsV n ≤ 2 := by unfold popsV; split <;> (try split) <;> omega
theorem putsV_range (n : Int) : 0 ≤ putsV n ∧ putsV n ≤ 2 := by unfold putsV; split <;> (try split) <;> omega
theorem pops_pc (n : Int) : PC Try.prog 106 [iv n] (iv (popsV n)) := by
  refine pc_of_get pops_get (by simp) _ (by simp) _ ?_
  unfold pops_c
  simp
  repeat' (refine split (fun hc => ?_) (fun hc => ?_) <;> simp [*])
  all_goals grind [popsV]
theorem puts_pc (n : Int) : PC Try.prog 94 [iv n] (iv (putsV n)) := by
  refine pc_of_get puts_get (by simp) _ (by simp) _ ?_
  unfold puts_c
  simp
  repeat' (refine split (fun hc => ?_) (fun hc => ?_) <;> simp [*])
  all_goals grind [putsV]
theorem lit25 {n : Int} (h1 : 1 ≤ n) (h2 : n ≤ 25) : n = 1 ∨ n = 2 ∨ n = 3 ∨ n = 4 ∨ n = 5 ∨ n = 6 ∨ n = 7 ∨ n = 8 ∨ n = 9 ∨ n = 10 ∨ n = 11 ∨ n = 12 ∨ n = 13 ∨ n = 14 ∨ n = 15 ∨ n = 16 ∨ n = 17 ∨ n = 18 ∨ n = 19 ∨ n = 20 ∨ n = 21 ∨ n = 22 ∨ n = 23 ∨ n = 24 ∨ n = 25 := by omega
theorem rpops_pc (n : Int) : PC Try.prog 82 [iv n] (iv (popsV n)) := by
  refine pc_of_get rpops_get (by simp) _ (by simp) _ ?_
  unfold rpops_c
  simp
  refine call (rvalid_pc n) (by simp) ?_
  simp
  refine split (fun h1 => ?_) (fun h1 => ?_) <;> simp [h1]
  rotate_left
  · grind [popsV]
  refine split (fun h2 => ?_) (fun h2 => ?_) <;> simp [h2]
  rotate_left
  · grind [popsV]
  rcases lit25 h1 h2 with h | h | h | h | h | h | h | h | h | h | h | h | h | h | h | h | h | h | h | h | h | h | h | h | h <;> subst h <;> simp [popsV]
theorem rputs_pc (n : Int) : PC Try.prog 83 [iv n] (iv (putsV n)) := by
  refine pc_of_get rputs_get (by simp) _ (by simp) _ ?_
  unfold rputs_c
  simp
  refine call (rvalid_pc n) (by simp) ?_
  simp
  refine split (fun h1 => ?_) (fun h1 => ?_) <;> simp [h1]
  rotate_left
  · grind [putsV]
  refine split (fun h2 => ?_) (fun h2 => ?_) <;> simp [h2]
  rotate_left
  · grind [putsV]
  rcases lit25 h1 h2 with h | h | h | h | h | h | h | h | h | h | h | h | h | h | h | h | h | h | h | h | h | h | h | h | h <;> subst h <;> simp [putsV]

/-- The arguments of a handler, by its number. -/
def argsOf (hs : List Hnd) (a : Int) : Int := (hs[a.toNat]?.map Hnd.args).getD 0
def takesV (hs : List Hnd) (i : Ins) : Int := popsV i.op + if i.op = 22 then argsOf hs i.a else 0
/-- What must hold of an instruction that is looked at. -/
def insOk (hs : List Hnd) (i : Ins) : Prop := i.op = 22 → 0 ≤ i.a ∧ i.a.toNat < hs.length ∧ 0 ≤ argsOf hs i.a ∧ argsOf hs i.a ≤ 4
theorem takesV_range {hs : List Hnd} {i : Ins} (h : insOk hs i) : 0 ≤ takesV hs i ∧ takesV hs i ≤ 6 := by
  have := popsV_range i.op
  unfold takesV
  split
  · rename_i h1; have := h h1; omega
  · omega
theorem takes_pc (p : Prg) (i : Ins) (h : insOk p.hs i) : PC Try.prog 93 [p.av, i.av] (iv (takesV p.hs i)) := by
  refine pc_of_get takes_get (by simp) _ (by simp) _ ?_
  unfold takes_c
  simp
  refine call (pops_pc i.op) (by simp) ?_
  simp
  refine split (fun h1 => ?_) (fun h1 => ?_) <;> simp [h1]
  · obtain ⟨h2, h3, h4, h5⟩ := h h1
    have e : argsOf p.hs i.a = p.hs[i.a.toNat].args := by simp [argsOf, h3]
    have := popsV_range 22
    simp [h2, h3, takesV, h1]
    rw [wrap_in _ (by omega) (by omega)]
    omega
  · simp [takesV, h1]

/-- What may come behind an instruction. -/
def nextV (at' : Nat) (i : Ins) : List Nat :=
  if i.op = 20 then [i.a.toNat] else if i.op = 21 then [i.a.toNat, at' + 1] else if i.op = 25 then [] else [at' + 1]
def nats (l : List Nat) : AV := .lst 1 (l.map (fun n : Nat => iv n))
theorem next_pc (n : Nat) (i : Ins) (hn : n < 4611686018427387904) (h : i.op = 20 ∨ i.op = 21 → 0 ≤ i.a) : PC Try.prog 95 [iv n, i.av] (nats (nextV n i)) := by
  have w : IntKind.i64.wrap ((n : Int) + 1) = (n : Int) + 1 := wrap_in _ (by omega) (by omega)
  refine pc_of_get next_get (by simp) _ (by simp) _ ?_
  unfold next_c
  simp
  refine split (fun h1 => ?_) (fun h1 => ?_) <;> simp [h1]
  · have := h (.inl h1)
    simp [nextV, h1, nats]; omega
  refine split (fun h2 => ?_) (fun h2 => ?_) <;> simp [h2]
  · have := h (.inr h2)
    simp [nextV, h2, nats, w]; omega
  refine split (fun h3 => ?_) (fun h3 => ?_) <;> simp [h3]
  · simp [nextV, h3, nats]
  · simp [nextV, h1, h2, h3, nats, w]

abbrev uv (n : Int) : AV := .int .u64 n
theorem u64_wrap (n : Int) (h1 : 0 ≤ n) (h2 : n < 18446744073709551616) : IntKind.u64.wrap n = n := by
  simp [IntKind.wrap, IntKind.signed, IntKind.bits]; omega
theorem u64_wrap_mod (n : Int) : IntKind.u64.wrap n = n % 18446744073709551616 := by simp [IntKind.wrap, IntKind.signed, IntKind.bits]
theorem u64_low (n : Nat) (h : n < 18446744073709551616) : bitAnd .u64 (n : Int) 4294967295 = ((n % 4294967296 : Nat) : Int) := by
  have e : (BitVec.ofInt 64 (n : Int) &&& BitVec.ofInt 64 4294967295).toNat = n % 4294967296 := by
    have e1 : (BitVec.ofInt 64 (n : Int)).toNat = n := by rw [BitVec.toNat_ofInt]; omega
    have e2 : (BitVec.ofInt 64 4294967295).toNat = 2 ^ 32 - 1 := by decide
    rw [BitVec.toNat_and, e1, e2, Nat.and_two_pow_sub_one_eq_mod]
  show IntKind.u64.wrap ((BitVec.ofInt 64 (n : Int) &&& BitVec.ofInt 64 4294967295).toNat : Int) = _
  rw [e, u64_wrap _ (by omega) (by omega)]
theorem shr32 (n : Nat) : shiftI false .u64 n 32 = ((n / 4294967296 : Nat) : Int) := by
  show (n : Int).fdiv 4294967296 = _
  rw [Int.fdiv_eq_ediv_of_nonneg _ (by decide)]; rfl
/-- A product with 1. -/
theorem mul64_pc (n : Nat) (h : n < 4294967296) : PC Try.prog 120 [uv 1, uv n] (.tup [uv 0, uv n]) := by
  refine pc_of_get mul64_get (by simp) _ (by simp) _ ?_
  unfold mul64_c
  have e1 : bitAnd .u64 1 4294967295 = 1 := u64_low 1 (by omega)
  have e2 := u64_low n (by omega)
  rw [Nat.mod_eq_of_lt h] at e2
  have e0 : bitAnd .u64 0 4294967295 = 0 := u64_low 0 (by omega)
  have w0 : IntKind.u64.wrap 0 = 0 := by decide
  have wn : IntKind.u64.wrap (n : Int) = n := u64_wrap _ (by omega) (by omega)
  have s0 : shiftI false .u64 1 32 = 0 := shr32 1
  have s1 := shr32 n
  rw [Nat.div_eq_of_lt h] at s1
  have s2 : shiftI false .u64 0 32 = 0 := shr32 0
  simp only [Int.natCast_zero] at s1
  simp [e1, e2, s0, s1, s2, wn, w0, e0]
theorem mul_pc (n : Nat) (h : n < 4294967296) : PC Try.prog 105 [uv 1, uv n] (.tup [uv 0, uv n]) := by
  refine pc_of_get mul_get (by simp) _ (by simp) _ ?_
  unfold mul_c
  simp
  refine call (mul64_pc n h) (by simp) ?_
  simp

end Go.Gv
