/- Texts of this proof, one behind the other. What is proved, and on which conditions, stands ahead of each. -/
import Derived.Test.YtpaeffcpdpblcaaProg
import Derived.Test.YtpaeffcpdpblcaaM17c4e883

/- What a plan's alive answers: the handlers that may ever be run. Conditions: those that each law names. -/
set_option linter.unusedVariables false
set_option linter.unusedSimpArgs false
namespace Go.Gv
open Go.Proofs

def idxf_r0 : List AI := [⟨(some 4), none, (.op (.mv (.c (.int .i64 0))))⟩]
def idxf_r1 : List AI := [⟨(some 6), none, (.op (.mv (.t 0)))⟩, ⟨(some 7), none, (.op (.len (.t 6)))⟩, ⟨(some 8), none, (.op (.mv (.c (.int .i64 0))))⟩]
def idxf_r2 : List AI := [⟨(some 9), none, (.op (.ibin .lss (.t 8) (.t 7)))⟩]
def idxf_r3 : List AI := [⟨(some 10), none, (.op (.mv (.t 8)))⟩, ⟨(some 5), none, (.op (.mv (.t 10)))⟩]
def idxf_r4 : List AI := [⟨(some 11), none, (.op (.mv (.t 1)))⟩, ⟨(some 12), none, (.op (.mv (.t 0)))⟩, ⟨(some 13), none, (.op (.mv (.t 5)))⟩, ⟨(some 14), none, (.op (.idx 1 (.t 12) (.t 13)))⟩, ⟨(some 15), none, (.op (.load none (.t 14)))⟩, ⟨(some 16), none, (.call (.t 11) [(.t 15)])⟩]
def idxf_r5 : List AI := [⟨(some 17), none, (.op (.mv (.t 5)))⟩, ⟨(some 4), none, (.op (.mv (.t 17)))⟩]
def idxf_r6 : List AI := [⟨(some 18), none, (.op (.ibin .add (.t 8) (.c (.int .i64 1))))⟩, ⟨(some 8), none, (.op (.mv (.t 18)))⟩]
def idxf_l0 : AC := (.seq (.reg idxf_r2) (.seq (.cond (.t 9) .skip (.exit 0)) (.seq (.block 1 (.seq (.reg idxf_r3) (.seq (.reg idxf_r4) (.cond (.t 16) (.seq (.reg idxf_r5) .ret) .skip)))) (.reg idxf_r6))))
def idxf_r7 : List AI := [⟨(some 4), none, (.op (.mv (.c (.int .i64 (-1)))))⟩]
def idxf_c : AC := (.seq (.reg idxf_r0) (.seq (.seq (.reg idxf_r1) (.block 0 (.loop idxf_l0))) (.seq (.reg idxf_r7) .ret)))
def idxf_res : List ARes := [(.tmp 4)]
set_option maxRecDepth 100000 in
theorem idxf_get : getF Try.prog 100 133000 [] = some ("slices.IndexFunc[[]int,int]", 19, idxf_c, idxf_res) := by kernel_rfl
def contf_r0 : List AI := [⟨(some 4), none, (.op (.mv (.c (.bool false))))⟩]
def contf_r1 : List AI := [⟨(some 5), none, (.op (.mv (.t 0)))⟩, ⟨(some 6), none, (.op (.mv (.t 1)))⟩, ⟨(some 7), none, (.call (.c (.fn 100 [])) [(.t 5), (.t 6)])⟩, ⟨(some 8), none, (.op (.ibin .geq (.t 7) (.c (.int .i64 0))))⟩, ⟨(some 4), none, (.op (.mv (.t 8)))⟩]
def contf_c : AC := (.seq (.reg contf_r0) (.seq (.reg contf_r1) .ret))
def contf_res : List ARes := [(.tmp 4)]
set_option maxRecDepth 100000 in
theorem contf_get : getF Try.prog 80 134000 [] = some ("slices.ContainsFunc[[]int,int]", 9, contf_c, contf_res) := by kernel_rfl
def alive_r0 : List AI := [⟨(some 1), none, (.op (.box 131501 1 (.t 0)))⟩, ⟨(some 2), none, (.op (.mv (.c .nils)))⟩]
def alive_r1 : List AI := [⟨(some 3), none, (.op (.mv (.c .nils)))⟩]
def alive_r2 : List AI := [⟨(some 11), none, (.op (.load none (.t 1)))⟩, ⟨(some 12), none, (.op (.nilck (.t 11)))⟩, ⟨(some 13), none, (.op (.fld 0 (.t 12)))⟩, ⟨(some 14), none, (.op (.fld 2 (.t 13)))⟩, ⟨(some 15), none, (.op (.load none (.t 14)))⟩, ⟨(some 16), none, (.op (.len (.t 15)))⟩, ⟨(some 17), none, (.op (.mv (.c (.int .i64 0))))⟩]
def alive_r3 : List AI := [⟨(some 18), none, (.op (.ibin .lss (.t 17) (.t 16)))⟩]
def alive_r4 : List AI := [⟨(some 19), none, (.op (.idx 3 (.t 15) (.t 17)))⟩, ⟨(some 20), none, (.op (.load (some 3) (.t 19)))⟩, ⟨(some 5), none, (.op (.new 131505 3 (.agg [(.int .i64 0), (.int .i64 0), .nils])))⟩, ⟨none, none, (.op (.store 3 (.t 5) (.t 20)))⟩]
def alive_r5 : List AI := [⟨(some 21), none, (.op (.mv (.t 3)))⟩, ⟨(some 22), none, (.op (.fld 1 (.t 5)))⟩, ⟨(some 23), none, (.op (.load none (.t 22)))⟩, ⟨(some 24), none, (.op (.bsl 131524 1 3 1 (.int .i64 0) [(0, (.t 23))]))⟩, ⟨(some 25), none, (.op (.app 131525 1 3 8 (.t 21) (.t 24)))⟩, ⟨(some 3), none, (.op (.mv (.t 25)))⟩]
def alive_r6 : List AI := [⟨(some 26), none, (.op (.ibin .add (.t 17) (.c (.int .i64 1))))⟩, ⟨(some 17), none, (.op (.mv (.t 26)))⟩]
def alive_l0 : AC := (.seq (.reg alive_r3) (.seq (.cond (.t 18) .skip (.exit 0)) (.seq (.block 1 (.seq (.reg alive_r4) (.reg alive_r5))) (.reg alive_r6))))
def alive_r7 : List AI := [⟨(some 27), none, (.op (.load none (.t 1)))⟩, ⟨(some 28), none, (.op (.nilck (.t 27)))⟩, ⟨(some 29), none, (.op (.fld 0 (.t 28)))⟩, ⟨(some 30), none, (.op (.fld 1 (.t 29)))⟩, ⟨(some 31), none, (.op (.load none (.t 30)))⟩, ⟨(some 32), none, (.op (.len (.t 31)))⟩, ⟨(some 33), none, (.op (.mv (.c (.int .i64 0))))⟩]
def alive_r8 : List AI := [⟨(some 34), none, (.op (.ibin .lss (.t 33) (.t 32)))⟩]
def alive_r9 : List AI := [⟨(some 35), none, (.op (.idx 4 (.t 31) (.t 33)))⟩, ⟨(some 36), none, (.op (.load (some 4) (.t 35)))⟩, ⟨(some 7), none, (.op (.new 131507 4 (.agg [.nils, (.int .i64 0), (.int .i64 0), (.bool false)])))⟩, ⟨none, none, (.op (.store 4 (.t 7) (.t 36)))⟩]
def alive_r10 : List AI := [⟨(some 37), none, (.op (.fld 3 (.t 7)))⟩, ⟨(some 38), none, (.op (.load none (.t 37)))⟩]
def alive_r11 : List AI := [⟨(some 39), none, (.op (.mv (.t 3)))⟩, ⟨(some 40), none, (.op (.fld 2 (.t 7)))⟩, ⟨(some 41), none, (.op (.load none (.t 40)))⟩, ⟨(some 42), none, (.op (.bsl 131542 1 3 1 (.int .i64 0) [(0, (.t 41))]))⟩, ⟨(some 43), none, (.op (.app 131525 1 3 8 (.t 39) (.t 42)))⟩, ⟨(some 3), none, (.op (.mv (.t 43)))⟩]
def alive_r12 : List AI := [⟨(some 44), none, (.op (.ibin .add (.t 33) (.c (.int .i64 1))))⟩, ⟨(some 33), none, (.op (.mv (.t 44)))⟩]
def alive_l1 : AC := (.seq (.reg alive_r8) (.seq (.cond (.t 34) .skip (.exit 2)) (.seq (.block 3 (.seq (.reg alive_r9) (.seq (.reg alive_r10) (.cond (.t 38) (.reg alive_r11) .skip)))) (.reg alive_r12))))
def alive_r13 : List AI := [⟨(some 45), none, (.op (.load none (.t 1)))⟩, ⟨(some 46), none, (.op (.mv (.t 3)))⟩, ⟨(some 47), none, (.call (.c (.fn 66 [])) [(.t 45), (.t 46)])⟩, ⟨(some 8), none, (.op (.mv (.t 47)))⟩]
def alive_r14 : List AI := [⟨(some 48), none, (.op (.mv (.t 8)))⟩, ⟨(some 49), none, (.op (.mkf 81 [(.t 1)]))⟩, ⟨(some 50), none, (.call (.c (.fn 80 [])) [(.t 48), (.t 49)])⟩]
def alive_r15 : List AI := [⟨(some 51), none, (.op (.load none (.t 1)))⟩, ⟨(some 52), none, (.op (.nilck (.t 51)))⟩, ⟨(some 53), none, (.op (.fld 0 (.t 52)))⟩, ⟨(some 54), none, (.op (.fld 1 (.t 53)))⟩, ⟨(some 55), none, (.op (.load none (.t 54)))⟩, ⟨(some 56), none, (.op (.len (.t 55)))⟩, ⟨(some 57), none, (.op (.mv (.c (.int .i64 0))))⟩]
def alive_r16 : List AI := [⟨(some 58), none, (.op (.ibin .lss (.t 57) (.t 56)))⟩]
def alive_r17 : List AI := [⟨(some 59), none, (.op (.idx 4 (.t 55) (.t 57)))⟩, ⟨(some 60), none, (.op (.load (some 4) (.t 59)))⟩, ⟨(some 10), none, (.op (.new 131510 4 (.agg [.nils, (.int .i64 0), (.int .i64 0), (.bool false)])))⟩, ⟨none, none, (.op (.store 4 (.t 10) (.t 60)))⟩]
def alive_r18 : List AI := [⟨(some 61), none, (.op (.fld 2 (.t 10)))⟩, ⟨(some 62), none, (.op (.load none (.t 61)))⟩, ⟨(some 63), none, (.op (.ibin .geq (.t 62) (.c (.int .i64 0))))⟩]
def alive_r19 : List AI := [⟨(some 64), none, (.op (.mv (.t 8)))⟩, ⟨(some 65), none, (.op (.fld 2 (.t 10)))⟩, ⟨(some 66), none, (.op (.load none (.t 65)))⟩, ⟨(some 67), none, (.op (.bsl 131567 1 3 1 (.int .i64 0) [(0, (.t 66))]))⟩, ⟨(some 68), none, (.op (.app 132049 1 3 8 (.t 64) (.t 67)))⟩, ⟨(some 8), none, (.op (.mv (.t 68)))⟩]
def alive_r20 : List AI := [⟨(some 69), none, (.op (.ibin .add (.t 57) (.c (.int .i64 1))))⟩, ⟨(some 57), none, (.op (.mv (.t 69)))⟩]
def alive_l2 : AC := (.seq (.reg alive_r16) (.seq (.cond (.t 58) .skip (.exit 4)) (.seq (.block 5 (.seq (.reg alive_r17) (.seq (.reg alive_r18) (.cond (.t 63) (.reg alive_r19) .skip)))) (.reg alive_r20))))
def alive_r21 : List AI := [⟨(some 70), none, (.op (.load none (.t 1)))⟩, ⟨(some 71), none, (.op (.mv (.t 8)))⟩, ⟨(some 72), none, (.call (.c (.fn 66 [])) [(.t 70), (.t 71)])⟩, ⟨(some 2), none, (.op (.mv (.t 72)))⟩]
def alive_c : AC := (.seq (.reg alive_r0) (.seq (.reg alive_r1) (.seq (.seq (.reg alive_r2) (.block 0 (.loop alive_l0))) (.seq (.seq (.reg alive_r7) (.block 2 (.loop alive_l1))) (.seq (.reg alive_r13) (.seq (.seq (.reg alive_r14) (.cond (.t 50) (.seq (.reg alive_r15) (.block 4 (.loop alive_l2))) .skip)) (.seq (.reg alive_r21) .ret)))))))
def alive_res : List ARes := [(.tmp 2)]
set_option maxRecDepth 100000 in
theorem alive_get : getF Try.prog 67 131500 [(43, 25), (68, 549)] = some ("(*gavotte/reach.Plan).alive", 73, alive_c, alive_res) := by kernel_rfl
def alive1_r0 : List AI := [⟨(some 3), none, (.op (.mv (.c (.bool false))))⟩]
def alive1_r1 : List AI := [⟨(some 4), none, (.op (.load none (.t 1)))⟩, ⟨(some 5), none, (.op (.nilck (.t 4)))⟩, ⟨(some 6), none, (.op (.fld 10 (.t 5)))⟩, ⟨(some 7), none, (.op (.load none (.t 6)))⟩, ⟨(some 8), none, (.op (.mv (.t 0)))⟩, ⟨(some 9), none, (.op (.idx 1 (.t 7) (.t 8)))⟩, ⟨(some 10), none, (.op (.load none (.t 9)))⟩, ⟨(some 3), none, (.op (.mv (.t 10)))⟩]
def alive1_c : AC := (.seq (.reg alive1_r0) (.seq (.reg alive1_r1) .ret))
def alive1_res : List ARes := [(.tmp 3)]
set_option maxRecDepth 100000 in
theorem alive1_get : getF Try.prog 81 136000 [] = some ("(*gavotte/reach.Plan).alive$1", 11, alive1_c, alive1_res) := by kernel_rfl
attribute [simp] idxf_r0 idxf_r1 idxf_r2 idxf_r3 idxf_r4 idxf_r5 idxf_r6 idxf_r7 idxf_res contf_r0 contf_r1 contf_res alive_r0 alive_r1 alive_r2 alive_r3 alive_r4 alive_r5 alive_r6 alive_r7 alive_r8 alive_r9 alive_r10 alive_r11 alive_r12 alive_r13 alive_r14 alive_r15 alive_r16 alive_r17 alive_r18 alive_r19 alive_r20 alive_r21 alive_res alive1_r0 alive1_r1 alive1_res


-- The names that reach's own functions use.
def LR (n : Nat) : Bool := decide (99000 ≤ n) && decide (n < 99001) || decide (130000 ≤ n) && decide (n < 160000) || decide (1000130000 ≤ n) && decide (n < 1000160000)
theorem ne_LR {nm : Nat} (h : LR nm = false) (i : Nat) (hi : LR i = true) : (nm = i) = False := eq_false (fun e => by rw [← e, h] at hi; cases hi)
theorem ne_LR' {nm : Nat} (h : LR nm = false) (i : Nat) (hi : LR i = true) : (i = nm) = False := eq_false (fun e => by rw [e, h] at hi; cases hi)
theorem Frl.fh {Lb Lt : List Nat} {S S' : St} (h : Frl Lb Lt S S') (hc : S.clk ≤ S'.clk) (h1 : ∀ n ∈ Lb, LR n = true) (h2 : ∀ n ∈ Lt, LR n = true) : Fh LR S S' :=
  ⟨fun n hn => h.b n (fun q => by rw [h1 n q] at hn; cases hn), fun n hn => h.k n (fun q => by rw [h2 n q] at hn; cases hn), hc⟩
def planC (p : Prg) (dn lk sm md : Int) (v8 v9 v10 v11 : AV) : List AV := [.lst 2 (p.hs.map Hnd.av), .lst 4 (p.as.map Actr.av), .lst 3 (p.boot.map Nt.av), iv p.fuel, .int .u32 dn, .int .i32 lk, .int .u32 sm, iv md, v8, v9, v10, v11]
theorem LstV.idxB {v : AV} {arms : List Bool} (h : LstV v (arms.map AV.bool)) (blk : Nat → Option Blk) (i : Nat) (hi : i < arms.length) : idxA blk 1 v i = some (.kp [.bool arms[i]] 0) := by
  rcases h with rfl | ⟨nm, st, rfl⟩ | ⟨rfl, h⟩
  · simp [hi]
  · simp [hi]
  · have : arms = [] := by simpa using h
    subst this; simp at hi
theorem alive1_v (nm st s1 : Nat) (h1 : nm ≠ 131501) (p : Prg) (dn lk sm md : Int) (v8 v9 v10 v11 : AV) (arms : List Bool) (hv : LstV v10 (arms.map AV.bool)) (x : Int) (hx : 0 ≤ x ∧ x < arms.length) {S : St} {k : AV → St → Prop} {u : Dep k}
    (hb1 : S.blk 131501 = some ⟨s1, 1, [.ptr nm st 12 0 0]⟩) (hb : S.blk nm = some ⟨st, 12, [.agg (planC p dn lk sm md v8 v9 v10 v11)]⟩)
    (hk : ∀ S', S'.t = S.t → S'.blk = S.blk → S'.tok = S.tok → S.clk ≤ S'.clk → k (.bool ((arms[x.toNat]?).getD false)) S') :
    CallG Try.prog (.fn 81 [.ptr 131501 s1 1 0 0]) [iv x] S k u := by
  refine callV alive1_get (by simp) (by simp) ?_
  unfold alive1_c
  have hlt : x.toNat < arms.length := by omega
  have hi := hv.idxB
  simp [hb1, hb, planC, hx.1, hi _ _ hlt]
  have e : (arms[x.toNat]?).getD false = arms[x.toNat] := by simp [hlt]
  rw [e] at hk
  exact hk _ rfl rfl rfl (by simp; omega)
/-- The first place at which p holds, or -1. -/
def idxV (p : Int → Bool) (l : List Int) : Int := match l.findIdx? p with | some i => (i : Int) | none => -1
theorem indexF_v (l : List Int) (hl : l.length < 1000000) (fv : AV) (p : Int → Bool) {S : St} {k : AV → St → Prop} {u : Dep k}
    (hf : ∀ x ∈ l, ∀ (S' : St) (κ : AV → St → Prop), S'.blk = S.blk → S'.tok = S.tok → (∀ S'', S''.t = S'.t → S''.blk = S'.blk → S''.tok = S'.tok → S'.clk ≤ S''.clk → κ (.bool (p x)) S'') → CallG Try.prog fv [iv x] S' κ .mk)
    (hk : ∀ (i : Int) (S' : St), (0 ≤ i ↔ l.any p = true) → S'.t = S.t → S'.blk = S.blk → S'.tok = S.tok → S.clk ≤ S'.clk → k (iv i) S') :
    CallG Try.prog (.fn 100 []) [ints l, fv] S k u := by
  refine callV idxf_get (by simp) (by simp) ?_
  unfold idxf_c
  simp [ints]
  refine loopN (fun i S' => S'.t 0 = .lst 1 (l.map iv) ∧ S'.t 1 = fv ∧ S'.t 7 = iv l.length ∧ S'.t 8 = iv i ∧ S'.blk = S.blk ∧ S'.tok = S.tok ∧ S.clk ≤ S'.clk ∧ (∀ x ∈ l.take i, p x = false)) l.length ?_ ?_
  · refine ⟨by simp, by simp, by simp, by simp, rfl, rfl, by simp; omega, by simp⟩
  · rintro i S' hi ⟨g0, g1, g7, g8, gb, gk, gc, gp⟩
    by_cases hlt : i < l.length
    · have hw := wrap_succ i _ hlt (by omega)
      simp [idxf_l0, g0, g1, g7, g8, hlt]
      refine hf l[i] (List.getElem_mem hlt) _ _ gb gk ?_
      rintro S'' q1 q2 q3 q4
      cases hp : p l[i] with
      | true =>
        simp [q1, g0, g1, g7, g8]
        refine hk i _ ⟨fun _ => List.any_eq_true.2 ⟨_, List.getElem_mem hlt, hp⟩, fun _ => by omega⟩ rfl (q2.trans gb) (q3.trans gk) (by simp at q4 ⊢; omega)
      | false =>
        simp [q1, g0, g1, g7, g8, hw, hlt]
        refine ⟨q2.trans gb, q3.trans gk, by simp at q4; omega, fun x hx => ?_⟩
        rw [List.take_succ_eq_append_getElem hlt] at hx
        rcases List.mem_append.1 hx with q | q
        · exact gp x q
        · rw [List.mem_singleton.1 q]; exact hp
    · have e1 : i = l.length := by omega
      subst e1
      rw [List.take_length] at gp
      simp [idxf_l0, g0, g1, g7, g8]
      refine hk (-1) _ ⟨fun h => by omega, fun h => ?_⟩ rfl gb gk (by simp; omega)
      obtain ⟨x, h1, h2⟩ := List.any_eq_true.1 h
      rw [gp x h1] at h2; cases h2
theorem containsF_v (l : List Int) (hl : l.length < 1000000) (fv : AV) (p : Int → Bool) {S : St} {k : AV → St → Prop} {u : Dep k}
    (hf : ∀ x ∈ l, ∀ (S' : St) (κ : AV → St → Prop), S'.blk = S.blk → S'.tok = S.tok → (∀ S'', S''.t = S'.t → S''.blk = S'.blk → S''.tok = S'.tok → S'.clk ≤ S''.clk → κ (.bool (p x)) S'') → CallG Try.prog fv [iv x] S' κ .mk)
    (hk : ∀ (S' : St), S'.t = S.t → S'.blk = S.blk → S'.tok = S.tok → S.clk ≤ S'.clk → k (.bool (l.any p)) S') :
    CallG Try.prog (.fn 80 []) [ints l, fv] S k u := by
  refine callV contf_get (by simp) (by simp) ?_
  unfold contf_c
  simp [ints]
  refine indexF_v l hl fv p (fun x hx S' κ b1 b2 b3 => hf x hx S' κ b1 b2 b3) ?_
  intro i S' hi q1 q2 q3 q4
  simp [q1]
  have e : l.any p = decide (i ≥ 0) := by
    by_cases h : 0 ≤ i
    · rw [hi.1 h]; simp; exact h
    · have : l.any p = false := by
        cases hq : l.any p with
        | false => rfl
        | true => exact absurd (hi.2 hq) h
      rw [this]; simp; omega
  rw [e] at hk
  exact hk _ rfl q2 q3 (by simp at q4 ⊢; omega)
def firstV (p : Prg) : List Int := p.boot.map Nt.hd ++ (p.as.filter fun a => a.armed).map Actr.timer
def timersV (p : Prg) : List Int := (p.as.filter fun a => decide (0 ≤ a.timer)).map Actr.timer
def armAt (arms : List Bool) (x : Int) : Bool := (arms[x.toNat]?).getD false
def live2 (p : Prg) (snd : List (List Int)) (arms : List Bool) : List Int := if (closedV snd (firstV p)).any (armAt arms) = true then closedV snd (firstV p) ++ timersV p else closedV snd (firstV p)
def liveV (p : Prg) (snd : List (List Int)) (arms : List Bool) : List Int := closedV snd (live2 p snd arms)
theorem closedV_in (snd : List (List Int)) (l : List Int) : InN snd.length (closedV snd l) := by
  intro x hx
  simp only [closedV, List.mem_filter, List.mem_map, List.mem_range] at hx
  obtain ⟨⟨n, h1, rfl⟩, _⟩ := hx
  omega
theorem closedV_len (snd : List (List Int)) (l : List Int) : (closedV snd l).length ≤ snd.length := by
  unfold closedV
  refine Nat.le_trans (List.length_filter_le _ _) (by simp)
theorem AccIs.at {S S' : St} {v : AV} {nm sz : Nat} {ty : TypeId} {xs : List AV} (h : AccIs S v nm sz ty xs) (hk : S'.tok nm = S.tok nm) : AccIs S' v nm sz ty xs := by
  rcases h with q | ⟨st, q1, q2⟩
  · exact .inl q
  · exact .inr ⟨st, q1, by rw [hk]; exact q2⟩
theorem filter_take_succ {α : Type} (l : List α) (q : α → Bool) (i : Nat) (h : i < l.length) : (l.take (i + 1)).filter q = (l.take i).filter q ++ if q l[i] = true then [l[i]] else [] := by
  rw [List.take_succ_eq_append_getElem h, List.filter_append]
  simp only [List.filter_cons, List.filter_nil]
theorem AccIs.elemR {S : St} {v : AV} {nm sz : Nat} {ty : TypeId} {xs : List AV} (h : AccIs S v nm sz ty xs) : elemR (dco (fun _ => none) 1) v (.lst sz xs) := by
  rcases h with ⟨rfl, rfl⟩ | ⟨st, rfl, _⟩ <;> simp [Go.Gv.elemR, dco, coL, co1]
theorem list2 {x y x' y' : AV} {Q : AV → AV → Prop} (h1 : x = x' ∨ Q x x') (h2 : y = y' ∨ Q y y') : ∀ (j : Nat) (a b : AV), [x, y][j]? = some a → [x', y'][j]? = some b → a = b ∨ Q a b := by
  intro j a b ha hb
  match j with
  | 0 => simp at ha hb; subst ha hb; exact h1
  | 1 => simp at ha hb; subst ha hb; exact h2
  | j + 2 => simp at ha
def first2 (p : Prg) (i : Nat) : List Int := p.boot.map Nt.hd ++ ((p.as.take i).filter fun a => a.armed).map Actr.timer
theorem first2_zero (p : Prg) : first2 p 0 = p.boot.map Nt.hd := by simp [first2]
theorem first2_end (p : Prg) : first2 p p.as.length = firstV p := by simp [first2, firstV]
theorem first2_succ (p : Prg) (i : Nat) (h : i < p.as.length) : first2 p (i + 1) = first2 p i ++ if p.as[i].armed = true then [p.as[i].timer] else [] := by
  rw [first2, filter_take_succ p.as (fun a => a.armed) i h, first2, List.append_assoc]
  cases q : p.as[i].armed <;> simp
theorem first2_len (p : Prg) (i : Nat) : (first2 p i).length ≤ p.boot.length + i := by
  have : ((p.as.take i).filter fun a => a.armed).length ≤ i := Nat.le_trans (List.length_filter_le _ _) (by simp; omega)
  simp [first2]; omega
def tim2 (p : Prg) (l : List Int) (i : Nat) : List Int := l ++ ((p.as.take i).filter fun a => decide (0 ≤ a.timer)).map Actr.timer
theorem tim2_zero (p : Prg) (l : List Int) : tim2 p l 0 = l := by simp [tim2]
theorem tim2_end (p : Prg) (l : List Int) : tim2 p l p.as.length = l ++ timersV p := by simp [tim2, timersV]
theorem tim2_succ (p : Prg) (l : List Int) (i : Nat) (h : i < p.as.length) : tim2 p l (i + 1) = tim2 p l i ++ if 0 ≤ p.as[i].timer then [p.as[i].timer] else [] := by
  rw [tim2, filter_take_succ p.as (fun a => decide (0 ≤ a.timer)) i h, tim2, List.append_assoc]
  by_cases q : 0 ≤ p.as[i].timer <;> simp [q]
theorem tim2_len (p : Prg) (l : List Int) (i : Nat) : (tim2 p l i).length ≤ l.length + i := by
  have : ((p.as.take i).filter fun a => decide (0 ≤ a.timer)).length ≤ i := Nat.le_trans (List.length_filter_le _ _) (by simp; omega)
  simp [tim2]; omega
theorem first_in {p : Prg} (hp : checkV p = 0) : InN p.hs.length (firstV p) := by
  obtain ⟨c1, c2, c3, c4, c5, c6, c7, c8, c9⟩ := checkV_zero hp
  intro x hx
  rcases List.mem_append.1 hx with q | q
  · obtain ⟨n, h1, rfl⟩ := List.mem_map.1 q
    have := c9 n h1
    unfold noteV at this
    split at this
    · omega
    · omega
  · obtain ⟨a, h1, rfl⟩ := List.mem_map.1 q
    obtain ⟨h2, h3⟩ := List.mem_filter.1 h1
    have := c8 a h2
    unfold actorV at this
    split at this
    · omega
    · split at this
      · omega
      · split at this
        · omega
        · split at this
          · omega
          · simp only [h3, true_and] at *
            omega
theorem timers_in {p : Prg} (hp : checkV p = 0) : InN p.hs.length (timersV p) := by
  obtain ⟨c1, c2, c3, c4, c5, c6, c7, c8, c9⟩ := checkV_zero hp
  intro x hx
  obtain ⟨a, h1, rfl⟩ := List.mem_map.1 hx
  obtain ⟨h2, h3⟩ := List.mem_filter.1 h1
  have := c8 a h2
  unfold actorV at this
  have h3 : 0 ≤ a.timer := by simpa using h3
  split at this
  · omega
  · split at this
    · omega
    · split at this
      · omega
      · omega
theorem live2_in {p : Prg} (hp : checkV p = 0) {snd : List (List Int)} (hn : p.hs.length = snd.length) (arms : List Bool) : InN snd.length (live2 p snd arms) := by
  unfold live2
  split
  · intro x hx
    rcases List.mem_append.1 hx with q | q
    · exact closedV_in snd _ x q
    · rw [← hn]; exact timers_in hp x q
  · exact closedV_in snd _
theorem mea_nil (snd : List (List Int)) (l : List Int) : mea snd [] l = l.length + snd.flatten.length := by rw [mea, unm_nil]
-- What holds all the way: the closure's cell, the plan, all else as it was.
structure AlS (nm st : Nat) (P : List AV) (T S : St) : Prop where
  x : ∃ s1, S.t 1 = .ptr 131501 s1 1 0 0 ∧ S.blk 131501 = some ⟨s1, 1, [.ptr nm st 12 0 0]⟩
  pl : S.blk nm = some ⟨st, 12, [.agg P]⟩
  fr : Fh LR T S
theorem alive_v (nm st : Nat) (hnm : LR nm = false) (p : Prg) (hp : checkV p = 0) (dn lk sm md : Int) (v8 v9 v10 v11 : AV) (snd : List (List Int)) (arms : List Bool) (hv8 : LstV v8 (snd.map ints)) (hv10 : LstV v10 (arms.map AV.bool))
    (hn : p.hs.length = snd.length) (ha : arms.length = snd.length) (hsnd : ∀ s ∈ snd, InN snd.length s) (hsl : snd.flatten.length ≤ 10000)
    {T : St} {κ : AV → St → Prop} {u : Dep κ} (hbT : T.blk nm = some ⟨st, 12, [.agg (planC p dn lk sm md v8 v9 v10 v11)]⟩)
    (hκ : ∀ r S, AccIs S r 132049 1 3 ((liveV p snd arms).map iv) → S.blk nm = some ⟨st, 12, [.agg (planC p dn lk sm md v8 v9 v10 v11)]⟩ → Fh LR T S → S.t = T.t → κ r S) :
    CallG Try.prog (.fn 67 []) [.ptr nm st 12 0 0] T κ u := by
  obtain ⟨c1, c2, c3, c4, c5, c6, c7, c8, c9⟩ := checkV_zero hp
  have n1 : nm ≠ 131501 := fun e => by rw [e] at hnm; cases hnm
  have n5 : nm ≠ 131505 := fun e => by rw [e] at hnm; cases hnm
  have n7 : nm ≠ 131507 := fun e => by rw [e] at hnm; cases hnm
  have n10 : nm ≠ 131510 := fun e => by rw [e] at hnm; cases hnm
  have n9 : nm ≠ 132009 := fun e => by rw [e] at hnm; cases hnm
  refine callV alive_get (by simp) (by simp) ?_
  unfold alive_c
  simp [hbT, n1, planC]
  refine loopN (fun i S => S.t 15 = .lst 3 (p.boot.map Nt.av) ∧ S.t 16 = iv p.boot.length ∧ S.t 17 = iv i ∧ AccIs S (S.t 3) 131525 1 3 (((p.boot.take i).map Nt.hd).map iv) ∧ AlS nm st (planC p dn lk sm md v8 v9 v10 v11) T S) p.boot.length ?_ ?_
  · refine ⟨by simp, by simp, by simp, by simp [AccIs], ⟨⟨T.clk, by simp, by simp⟩, by simp [n1, hbT], Fh.here (fun n hn => by repeat rw [upd_out hn rfl]) (fun n hn => rfl) (by omega)⟩⟩
  · rintro i S hi ⟨g15, g16, g17, hv3, ⟨⟨s1, x1, x2⟩, pl, fr⟩⟩
    by_cases hlt : i < p.boot.length
    · have hw := wrap_succ i _ hlt (by omega)
      have htk : (p.boot.take (i + 1)).map Nt.hd = (p.boot.take i).map Nt.hd ++ [p.boot[i].hd] := by rw [List.take_succ_eq_append_getElem hlt, List.map_append]; rfl
      have hlen : ((p.boot.take i).map Nt.hd).length ≤ i := by simp; omega
      rw [htk]
      generalize (p.boot.take i).map Nt.hd = xs at *
      have hb8 : (xs.length + 1) * 8 ≤ 140737488355328 := by omega
      rcases hv3 with ⟨q1, q2⟩ | ⟨s3, q1, q2⟩
      · have hx0 : xs = [] := by simpa using q2
        subst hx0
        simp [alive_l0, g15, g16, g17, hlt, hw, q1]
        refine ⟨by simp [AccIs], ⟨⟨s1, by simp [x1], by simp [x2]⟩, by simp [n5, pl], fr.step (fun n hn => by repeat rw [upd_out hn rfl]) (fun n hn => by repeat rw [upd_out hn rfl]) (by omega)⟩⟩
      · simp [alive_l0, g15, g16, g17, hlt, hw, q1, q2, hb8]
        refine ⟨by simp [AccIs], ⟨⟨s1, by simp [x1], by simp [x2]⟩, by simp [n5, pl], fr.step (fun n hn => by repeat rw [upd_out hn rfl]) (fun n hn => by repeat rw [upd_out hn rfl]) (by omega)⟩⟩
    · have e1 : i = p.boot.length := by omega
      subst e1
      rw [List.take_length] at hv3
      simp [alive_l0, g15, g16, g17, x1, x2, pl, planC]
      refine loopN (fun i S => S.t 31 = .lst 4 (p.as.map Actr.av) ∧ S.t 32 = iv p.as.length ∧ S.t 33 = iv i ∧ AccIs S (S.t 3) 131525 1 3 ((first2 p i).map iv) ∧ AlS nm st (planC p dn lk sm md v8 v9 v10 v11) T S) p.as.length ?_ ?_
      · refine ⟨by simp, by simp, by simp, by rw [first2_zero]; simpa [AccIs] using hv3, ⟨⟨s1, by simp [x1], by simp [x2]⟩, by simp [pl], fr.step (fun n hn => rfl) (fun n hn => rfl) (by omega)⟩⟩
      · clear g15 g16 g17 hv3 x1 x2 pl fr hi s1 hlt S
        rintro i S hi ⟨g31, g32, g33, hv3, ⟨⟨s1, x1, x2⟩, pl, fr⟩⟩
        by_cases hlt : i < p.as.length
        · have hw := wrap_succ i _ hlt (by omega)
          have hlen := first2_len p i
          rw [first2_succ p i hlt]
          generalize first2 p i = zs at *
          have hb8 : (zs.length + 1) * 8 ≤ 140737488355328 := by omega
          cases har : p.as[i].armed with
          | false =>
            simp [alive_l1, g31, g32, g33, hlt, hw, har]
            refine ⟨by simpa [AccIs] using hv3, ⟨⟨s1, by simp [x1], by simp [x2]⟩, by simp [n7, pl], fr.step (fun n hn => by repeat rw [upd_out hn rfl]) (fun n hn => rfl) (by omega)⟩⟩
          | true =>
            rcases hv3 with ⟨q1, q2⟩ | ⟨s3, q1, q2⟩
            · have hx0 : zs = [] := by simpa using q2
              subst hx0
              simp [alive_l1, g31, g32, g33, hlt, hw, q1, har]
              refine ⟨by simp [AccIs], ⟨⟨s1, by simp [x1], by simp [x2]⟩, by simp [n7, pl], fr.step (fun n hn => by repeat rw [upd_out hn rfl]) (fun n hn => by repeat rw [upd_out hn rfl]) (by omega)⟩⟩
            · simp [alive_l1, g31, g32, g33, hlt, hw, q1, q2, hb8, har]
              refine ⟨by simp [AccIs], ⟨⟨s1, by simp [x1], by simp [x2]⟩, by simp [n7, pl], fr.step (fun n hn => by repeat rw [upd_out hn rfl]) (fun n hn => by repeat rw [upd_out hn rfl]) (by omega)⟩⟩
        · have e1 : i = p.as.length := by omega
          subst e1
          rw [first2_end] at hv3
          simp [alive_l1, g31, g32, g33, x1, x2]
          refine call_coarse 1 (vals' := [.ptr nm st 12 0 0, ints (firstV p)]) rfl (list2 (.inl rfl) (.inr hv3.elemR)) ?_
          have hfl : (firstV p).length ≤ 24 := by have := first2_len p p.as.length; rw [first2_end] at this; omega
          refine closed_v nm st (planC p dn lk sm md v8 v9 v10 v11) (p.hs.map Hnd.av) v8 snd n9 (by simp [planC]) (by simp [planC]) hv8 (by simpa using hn) (by simp; omega) hsnd (firstV p) (by rw [← hn]; exact first_in hp) (by rw [mea_nil]; omega) (by exact pl) ?_
          rintro r S1 hr hF ht hc
          have f1 := hF.fh hc (by decide) (by decide)
          have pl1 : S1.blk nm = some ⟨st, 12, [.agg (planC p dn lk sm md v8 v9 v10 v11)]⟩ := by rw [f1.b nm hnm]; exact pl
          have x21 : S1.blk 131501 = some ⟨s1, 1, [.ptr nm st 12 0 0]⟩ := by rw [hF.b _ (by decide)]; exact x2
          have fr1 : Fh LR T S1 := (fr.step (t := upd (upd (upd S.t 34 (AV.bool false)) 45 (AV.ptr nm st 12 0 0)) 46 (S.t 3)) (fun n hn => rfl) (fun n hn => rfl) (c := S.clk + 1 + 4) (by omega)).trans f1
          simp [ht, x1]
          refine call_coarse 1 (vals' := [ints (closedV snd (firstV p)), .fn 81 [.ptr 131501 s1 1 0 0]]) rfl (list2 (.inr hr.elemR) (.inl rfl)) ?_
          have hcl := closedV_len snd (firstV p)
          have hci := closedV_in snd (firstV p)
          refine containsF_v _ (by omega) _ (armAt arms) ?_ ?_
          · intro x hx S2 κ2 b1 b2 b3
            have b1 : S2.blk = S1.blk := b1
            refine alive1_v nm st s1 n1 p dn lk sm md v8 v9 v10 v11 arms hv10 x (by have := hci x hx; omega) (by rw [b1]; exact x21) (by rw [b1]; exact pl1) ?_
            intro S3 d1 d2 d3 d4
            exact b3 S3 d1 d2 d3 d4
          · rintro S2 d1 d2 d3 d4
            have pl2 : S2.blk nm = some ⟨st, 12, [.agg (planC p dn lk sm md v8 v9 v10 v11)]⟩ := by rw [d2]; exact pl1
            have x22 : S2.blk 131501 = some ⟨s1, 1, [.ptr nm st 12 0 0]⟩ := by rw [d2]; exact x21
            have hr2 : AccIs S2 r 132049 1 3 ((closedV snd (firstV p)).map iv) := hr.at (by rw [d3])
            have fr2 : Fh LR T S2 := ⟨fun n h => by rw [d2]; exact fr1.b n h, fun n h => by rw [d3]; exact fr1.k n h, by have := fr1.c; simp at d4; omega⟩
            simp [d1, ht, x1]
            refine condG_split (fun hany => ?_) (fun hany => ?_)
            · have e2 : live2 p snd arms = closedV snd (firstV p) ++ timersV p := by unfold live2; rw [if_pos hany]
              simp [d1, ht, x1, x22, pl2, planC]
              refine loopN (fun i S => S.t 55 = .lst 4 (p.as.map Actr.av) ∧ S.t 56 = iv p.as.length ∧ S.t 57 = iv i ∧ AccIs S (S.t 8) 132049 1 3 ((tim2 p (closedV snd (firstV p)) i).map iv) ∧ AlS nm st (planC p dn lk sm md v8 v9 v10 v11) T S) p.as.length ?_ ?_
              · refine ⟨by simp, by simp, by simp, by rw [tim2_zero]; simpa [AccIs] using hr2, ⟨⟨s1, by simp [x1], by simp [x22]⟩, by simp [pl2], fr2.step (fun n hn => rfl) (fun n hn => rfl) (by omega)⟩⟩
              · clear g31 g32 g33 hv3 x1 x2 pl fr hi hlt hr hF ht hc f1 pl1 x21 fr1 d1 d2 d3 d4 pl2 x22 hr2 fr2 s1 S2 S1 S
                rintro i S hi ⟨g55, g56, g57, hv8', ⟨⟨s1, x1, x2⟩, pl, fr⟩⟩
                by_cases hlt : i < p.as.length
                · have hw := wrap_succ i _ hlt (by omega)
                  have hlen := tim2_len p (closedV snd (firstV p)) i
                  rw [tim2_succ p _ i hlt]
                  generalize tim2 p (closedV snd (firstV p)) i = zs at *
                  have hb8 : (zs.length + 1) * 8 ≤ 140737488355328 := by omega
                  by_cases har : 0 ≤ p.as[i].timer
                  · rcases hv8' with ⟨q1, q2⟩ | ⟨s3, q1, q2⟩
                    · have hx0 : zs = [] := by simpa using q2
                      subst hx0
                      simp [alive_l2, g55, g56, g57, hlt, hw, q1, har]
                      refine ⟨by simp [AccIs], ⟨⟨s1, by simp [x1], by simp [x2]⟩, by simp [n10, pl], fr.step (fun n hn => by repeat rw [upd_out hn rfl]) (fun n hn => by repeat rw [upd_out hn rfl]) (by omega)⟩⟩
                    · simp [alive_l2, g55, g56, g57, hlt, hw, q1, q2, hb8, har]
                      refine ⟨by simp [AccIs], ⟨⟨s1, by simp [x1], by simp [x2]⟩, by simp [n10, pl], fr.step (fun n hn => by repeat rw [upd_out hn rfl]) (fun n hn => by repeat rw [upd_out hn rfl]) (by omega)⟩⟩
                  · simp [alive_l2, g55, g56, g57, hlt, hw, har]
                    refine ⟨by simpa [AccIs] using hv8', ⟨⟨s1, by simp [x1], by simp [x2]⟩, by simp [n10, pl], fr.step (fun n hn => by repeat rw [upd_out hn rfl]) (fun n hn => rfl) (by omega)⟩⟩
                · have e1 : i = p.as.length := by omega
                  subst e1
                  rw [tim2_end, ← e2] at hv8'
                  simp [alive_l2, g55, g56, g57, x1, x2]
                  refine call_coarse 1 (vals' := [.ptr nm st 12 0 0, ints (live2 p snd arms)]) rfl (list2 (.inl rfl) (.inr hv8'.elemR)) ?_
                  have hll : (live2 p snd arms).length ≤ 1000 := by
                    have := tim2_len p (closedV snd (firstV p)) p.as.length
                    rw [tim2_end, ← e2] at this; omega
                  refine closed_v nm st (planC p dn lk sm md v8 v9 v10 v11) (p.hs.map Hnd.av) v8 snd n9 (by simp [planC]) (by simp [planC]) hv8 (by simpa using hn) (by simp; omega) hsnd _ (live2_in hp hn arms) (by rw [mea_nil]; omega) (by exact pl) ?_
                  rintro r S1 hr hF ht hc
                  have f1 := hF.fh hc (by decide) (by decide)
                  simp [ht]
                  refine hκ r _ (by simpa [AccIs, liveV] using hr) (by rw [← pl]; exact f1.b nm hnm) ?_ rfl
                  exact ((fr.step (t := S.t) (fun n hn => rfl) (fun n hn => rfl) (c := S.clk + 1 + 4) (by omega)).trans ⟨f1.b, f1.k, by simpa using hc⟩).step (fun n hn => rfl) (fun n hn => rfl) (by omega)
            · have e2 : live2 p snd arms = closedV snd (firstV p) := by unfold live2; rw [if_neg (by rw [hany]; simp)]
              simp [d1, ht, x1, x22]
              refine call_coarse 1 (vals' := [.ptr nm st 12 0 0, ints (live2 p snd arms)]) rfl (list2 (.inl rfl) (.inr (by rw [e2]; exact hr2.elemR))) ?_
              refine closed_v nm st (planC p dn lk sm md v8 v9 v10 v11) (p.hs.map Hnd.av) v8 snd n9 (by simp [planC]) (by simp [planC]) hv8 (by simpa using hn) (by simp; omega) hsnd _ (live2_in hp hn arms) (by rw [mea_nil, e2]; omega) (by exact pl2) ?_
              rintro r' S1' hr' hF' ht' hc'
              have f1' := hF'.fh hc' (by decide) (by decide)
              simp [ht']
              refine hκ r' _ (by simpa [AccIs, liveV] using hr') (by rw [← pl2]; exact f1'.b nm hnm) ?_ rfl
              exact ((fr2.step (t := S2.t) (fun n hn => rfl) (fun n hn => rfl) (c := S2.clk + 4) (by omega)).trans ⟨f1'.b, f1'.k, by simpa using hc'⟩).step (fun n hn => rfl) (fun n hn => rfl) (by omega)

end Go.Gv

/- What the reference's Depths and CheckFlow answer: the depths that rdepthsV tells. The code's instructions may be looked at (codeOk). -/
set_option linter.unusedVariables false
set_option linter.unusedSimpArgs false
namespace Go.Gv
open Go.Proofs


def rvisit1 (d : Int) (s : List Int × Bool) (k : Nat) : Option (List Int × Bool) :=
  match s.1[k]? with
  | some x => if 0 ≤ x ∧ x ≠ d then none else if x < 0 then some (s.1.set k d, true) else some s
  | none => none
def rvisitL (d : Int) : List Nat → List Int × Bool → Option (List Int × Bool)
  | [], s => some s
  | k :: ks, s => (rvisit1 d s k).bind (rvisitL d ks)
/-- Lists, the most, whether something is new. -/
structure RS where
  l : List Int
  most : Int
  again : Bool
def rstep (hs : List Hnd) (code : List Ins) (s : RS) (i : Nat) : Option RS :=
  match s.l[i]?, code[i]? with
  | some x, some c =>
    if x < 0 then some s else if x < takesV hs c ∨ x - takesV hs c + putsV c.op > 8 then none else
      match rvisitL (x - takesV hs c + putsV c.op) (nextV i c) (s.l, s.again) with
      | some r => some ⟨r.1, max (max s.most x) (x - takesV hs c + putsV c.op), r.2⟩
      | none => none
  | _, _ => none
def rpass (hs : List Hnd) (code : List Ins) : List Nat → RS → Option RS
  | [], s => some s
  | i :: is, s => (rstep hs code s i).bind (rpass hs code is)
def rgo (hs : List Hnd) (code : List Ins) : Nat → List Int → Int → Option (List Int × Int)
  | 0, _, _ => none
  | f + 1, l, most => match rpass hs code (List.range code.length) ⟨l, most, false⟩ with
    | some s => if s.again = true then rgo hs code f s.l s.most else some (s.l, s.most)
    | none => none
def rwalkV (hs : List Hnd) (code : List Ins) : Option (List Int × Int) := rgo hs code (code.length + 3) ((List.replicate (code.length + 1) (-1)).set 0 0) 0
/-- The lists are as they should be. -/
structure WfR (n : Nat) (l : List Int) : Prop where
  len : l.length = n + 1
  rng : ∀ x ∈ l, -1 ≤ x ∧ x ≤ 8
theorem rvisit1_ok {m : Nat} {d : Int} {s s' : List Int × Bool} {k : Nat} (h : rvisit1 d s k = some s') (hd : 0 ≤ d ∧ d ≤ 8) (hw : WfR m s.1) : WfR m s'.1 ∧ (s'.2 = s.2 ∧ s'.1 = s.1 ∨ s'.2 = true ∧ unr s'.1 + 1 = unr s.1) := by
  unfold rvisit1 at h
  split at h
  · rename_i x hx
    have hr := hw.rng x (List.mem_of_getElem? hx)
    split at h
    · cases h
    · split at h
      · cases h
        refine ⟨⟨by simpa using hw.len, ?_⟩, .inr ⟨rfl, unr_set _ _ _ (by rw [hx]; congr 1; omega) (by omega)⟩⟩
        intro y hy
        rcases List.mem_or_eq_of_mem_set hy with hy | hy
        · exact hw.rng y hy
        · omega
      · cases h; exact ⟨hw, .inl ⟨rfl, rfl⟩⟩
  · cases h
theorem rvisitL_ok {m : Nat} {d : Int} : ∀ {ks : List Nat} {s s' : List Int × Bool}, rvisitL d ks s = some s' → (0 ≤ d ∧ d ≤ 8) → WfR m s.1 → WfR m s'.1 ∧ (s'.2 = s.2 ∧ s'.1 = s.1 ∨ s'.2 = true ∧ unr s'.1 + 1 ≤ unr s.1)
  | [], s, s', h, _, hw => by cases h; exact ⟨hw, .inl ⟨rfl, rfl⟩⟩
  | k :: ks, s, s', h, hd, hw => by
    simp only [rvisitL, Option.bind_eq_some_iff] at h
    obtain ⟨s1, h1, h2⟩ := h
    obtain ⟨a1, a2⟩ := rvisit1_ok h1 hd hw
    obtain ⟨b1, b2⟩ := rvisitL_ok h2 hd a1
    refine ⟨b1, ?_⟩
    rcases a2 with ⟨a2, a3⟩ | ⟨a2, a3⟩ <;> rcases b2 with ⟨b2, b3⟩ | ⟨b2, b3⟩
    · exact .inl ⟨b2.trans a2, b3.trans a3⟩
    · exact .inr ⟨b2, by rw [← a3]; exact b3⟩
    · exact .inr ⟨b2.trans a2, by rw [b3]; omega⟩
    · exact .inr ⟨b2, by omega⟩

/-- A list that is a literal, or nil. -/
def IsL (v : AV) (ks : List Nat) : Prop := (v = .nils ∧ ks = []) ∨ ∃ nm st, v = .acc nm st 1 (ks.map (fun n : Nat => iv n))
def RB (S : St) (p : Prg) (code : List Ins) (l : List Int) (most : Int) (again : Bool) : Prop :=
  (∃ st, S.t 2 = .ptr 38002 st 4 0 0 ∧ S.blk 38002 = some ⟨st, 4, [p.av]⟩) ∧ S.t 7 = .lst 2 (code.map Ins.av) ∧ S.t 8 = iv code.length ∧
  (∃ st, S.t 9 = .sl 38038 st 1 0 l.length ∧ S.blk 38038 = some ⟨st, 1, l.map iv⟩) ∧ S.t 11 = iv most ∧ S.t 12 = .bool again
def RJ (p : Prg) (code : List Ins) (d : Int) (ks : List Nat) (most : Int) (i : Nat) (R : Option (List Int × Bool)) (j : Nat) (S : St) : Prop :=
  ∃ (l : List Int) (ag : Bool), rvisitL d (ks.drop j) (l, ag) = R ∧ WfR code.length l ∧ RB S p code l most ag ∧ S.t 13 = iv i ∧ S.t 16 = iv d ∧ IsL (S.t 17) ks ∧ S.t 18 = iv j
def RM (p : Prg) (code : List Ins) (R : Option RS) (i : Nat) (S : St) : Prop :=
  ∃ s : RS, rpass p.hs code (List.range' i (code.length - i)) s = R ∧ WfR code.length s.l ∧ RB S p code s.l s.most s.again ∧ S.t 13 = iv i
theorem rstep_ok {hs : List Hnd} {code : List Ins} {m : Nat} {s s' : RS} {i : Nat} (h : rstep hs code s i = some s') (hc : codeOk hs code) (hw : WfR m s.l) : WfR m s'.l ∧ (s'.again = s.again ∧ s'.l = s.l ∨ s'.again = true ∧ unr s'.l + 1 ≤ unr s.l) := by
  unfold rstep at h
  split at h
  · rename_i x c hx hcc
    split at h
    · cases h; exact ⟨hw, .inl ⟨rfl, rfl⟩⟩
    · split at h
      · cases h
      · rename_i h1 h2
        have hp := putsV_range c.op
        split at h
        · rename_i r hr
          cases h
          exact rvisitL_ok hr (by omega) hw
        · cases h
  · cases h
theorem rpass_ok {hs : List Hnd} {code : List Ins} {m : Nat} (hc : codeOk hs code) : ∀ {is : List Nat} {s s' : RS}, rpass hs code is s = some s' → WfR m s.l → WfR m s'.l ∧ (s'.again = s.again ∧ s'.l = s.l ∨ s'.again = true ∧ unr s'.l + 1 ≤ unr s.l)
  | [], s, s', h, hw => by cases h; exact ⟨hw, .inl ⟨rfl, rfl⟩⟩
  | i :: is, s, s', h, hw => by
    simp only [rpass, Option.bind_eq_some_iff] at h
    obtain ⟨s1, h1, h2⟩ := h
    obtain ⟨a1, a2⟩ := rstep_ok h1 hc hw
    obtain ⟨b1, b2⟩ := rpass_ok hc h2 a1
    refine ⟨b1, ?_⟩
    rcases a2 with ⟨a2, a3⟩ | ⟨a2, a3⟩ <;> rcases b2 with ⟨b2, b3⟩ | ⟨b2, b3⟩
    · exact .inl ⟨b2.trans a2, b3.trans a3⟩
    · exact .inr ⟨b2, by rw [← a3]; exact b3⟩
    · exact .inr ⟨b2.trans a2, by rw [b3]; omega⟩
    · exact .inr ⟨b2, by omega⟩
def rdepV (p : Prg) (h : Int) : List Int × Int × Int :=
  if h < 0 ∨ h ≥ p.hs.length then ([], -1, 7) else match p.hs[h.toNat]? with
    | some x => match rwalkV p.hs x.code with
      | some r => (r.1, r.2, 0)
      | none => ([], -1, 5)
    | none => ([], -1, 7)
def rdAV : Option (List Int × Int) → AV
  | some r => .tup [ints r.1, iv r.2, iv 0]
  | none => .tup [ints [], iv (-1), iv 5]
def RO (p : Prg) (code : List Ins) (R : Option (List Int × Int)) (f : Nat) (S : St) : Prop :=
  ∃ (l : List Int) (most : Int) (ag : Bool), RB S p code l most ag ∧ WfR code.length l ∧ (ag = true → rgo p.hs code f l most = R ∧ unr l < f) ∧ (ag = false → some (l, most) = R)
def rflowGo (p : Prg) : List Int → Int → Int
  | [], e => e
  | h :: l, e => if e = 0 then rflowGo p l (rdepV p h).2.2 else e
def rflowV (p : Prg) : Int := rflowGo p ((List.range p.hs.length).map fun n : Nat => (n : Int)) (checkV p)
end Go.Gv

/- The program's walk and the reference's passes come to the same depths, and the same greatest one. The code's instructions may be looked at (codeOk). -/
set_option linter.unusedVariables false
set_option linter.unusedSimpArgs false
namespace Go.Gv
open Go.Proofs


section
variable {hs : List Hnd} {code : List Ins}
/-- A place that is reached with so many numbers. -/
inductive Rch (hs : List Hnd) (code : List Ins) : Nat → Int → Prop
  | start : Rch hs code 0 0
  | step {a : Nat} {d : Int} {i : Ins} {k : Nat} (h : Rch hs code a d) (hi : code[a]? = some i) (h1 : takesV hs i ≤ d) (h2 : d - takesV hs i + putsV i.op ≤ 8) (hk : k ∈ nextV a i) : Rch hs code k (d - takesV hs i + putsV i.op)
/-- What is told of a reached place's instruction. -/
def Cl (hs : List Hnd) (out : List Int) (most : Int) (a : Nat) (d : Int) (i : Ins) : Prop :=
  takesV hs i ≤ d ∧ d - takesV hs i + putsV i.op ≤ 8 ∧ (∀ k ∈ nextV a i, out[k]? = some (d - takesV hs i + putsV i.op)) ∧ d ≤ most ∧ d - takesV hs i + putsV i.op ≤ most
structure FInv (hs : List Hnd) (code : List Ins) (out : List Int) (most : Int) : Prop where
  len : out.length = code.length + 1
  zero : out[0]? = some 0
  sound : ∀ (a : Nat) (d : Int), out[a]? = some d → d ≠ -1 → Rch hs code a d ∧ 0 ≤ d
  att : most = 0 ∨ ∃ (a : Nat) (d : Int) (i : Ins), out[a]? = some d ∧ d ≠ -1 ∧ code[a]? = some i ∧ (most = d ∨ most = d - takesV hs i + putsV i.op)
  m0 : 0 ≤ most
structure Good (hs : List Hnd) (code : List Ins) (out : List Int) (most : Int) extends FInv hs code out most where
  closed : ∀ (a : Nat) (d : Int) (i : Ins), out[a]? = some d → d ≠ -1 → code[a]? = some i → Cl hs out most a d i
def Bad (hs : List Hnd) (code : List Ins) : Prop :=
  (∃ (a : Nat) (d : Int) (i : Ins), Rch hs code a d ∧ code[a]? = some i ∧ (d < takesV hs i ∨ d - takesV hs i + putsV i.op > 8)) ∨ ∃ k d e, Rch hs code k d ∧ Rch hs code k e ∧ d ≠ e
theorem Good.rch {out : List Int} {most : Int} (hg : Good hs code out most) {a : Nat} {d : Int} (h : Rch hs code a d) : out[a]? = some d ∧ 0 ≤ d := by
  induction h with
  | start => exact ⟨hg.zero, Int.le_refl _⟩
  | step h hi h1 h2 hk ih =>
    have := putsV_range ‹Ins›.op
    exact ⟨(hg.closed _ _ _ ih.1 (by omega) hi).2.2.1 _ hk, by omega⟩
theorem Good.not_bad {out : List Int} {most : Int} (hg : Good hs code out most) : ¬ Bad hs code := by
  rintro (⟨a, d, i, h, hi, hb⟩ | ⟨k, d, e, h1, h2, hne⟩)
  · obtain ⟨h1, h2⟩ := hg.rch h
    have := hg.closed a d i h1 (by omega) hi
    have := this.1; have := this
    have q := hg.closed a d i h1 (by omega) hi
    have q2 := q.2.1
    omega
  · have a1 := (hg.rch h1).1
    have a2 := (hg.rch h2).1
    rw [a1] at a2
    exact hne (Option.some.inj a2)
theorem Good.most_le {o p : List Int} {m n : Int} (h : Good hs code o m) (k : Good hs code p n) : m ≤ n := by
  rcases h.att with e | ⟨a, d, i, h1, h2, h3, h4⟩
  · rw [e]; exact k.m0
  · obtain ⟨q1, q2⟩ := h.sound a d h1 h2
    have r := (k.rch q1).1
    obtain ⟨_, _, _, c4, c5⟩ := k.closed a d i r h2 h3
    rcases h4 with e | e <;> omega
theorem Good.uniq {o p : List Int} {m n : Int} (h : Good hs code o m) (k : Good hs code p n) : o = p ∧ m = n := by
  refine ⟨?_, by have := h.most_le k; have := k.most_le h; omega⟩
  refine List.ext_getElem? (fun a => ?_)
  by_cases hl : a < code.length + 1
  · have l1 : a < o.length := by rw [h.len]; exact hl
    have l2 : a < p.length := by rw [k.len]; exact hl
    have e1 : o[a]? = some o[a] := List.getElem?_eq_getElem l1
    have e2 : p[a]? = some p[a] := List.getElem?_eq_getElem l2
    by_cases h1 : o[a] = -1
    · by_cases h2 : p[a] = -1
      · rw [e1, e2, h1, h2]
      · have := (h.rch (k.sound a _ e2 h2).1).1
        rw [this, e2]
    · have := (k.rch (h.sound a _ e1 h1).1).1
      rw [this, e1]
  · rw [List.getElem?_eq_none (by rw [h.len]; omega), List.getElem?_eq_none (by rw [k.len]; omega)]

/-! ### The program's walk -/

/-- What a visit leaves: what was known stays, what is new is in the queue. -/
structure Ext (n : Int) (out out' : List Int) (Q : Nat → Prop) : Prop where
  len : out'.length = out.length
  keep : ∀ (a : Nat) (d : Int), out[a]? = some d → d ≠ -1 → out'[a]? = some d
  new : ∀ (a : Nat) (d : Int), out'[a]? = some d → d ≠ -1 → out[a]? = some d ∨ (d = n ∧ Q a)
theorem Ext.refl (n : Int) (out : List Int) (Q : Nat → Prop) : Ext n out out Q := ⟨rfl, fun _ _ h _ => h, fun _ _ h _ => .inl h⟩
theorem Ext.trans {n : Int} {a b c : List Int} {Q R : Nat → Prop} (h : Ext n a b Q) (k : Ext n b c R) (hq : ∀ x, Q x → R x) : Ext n a c R :=
  ⟨k.len.trans h.len, fun x d h1 h2 => k.keep x d (h.keep x d h1 h2) h2, fun x d h1 h2 => (k.new x d h1 h2).elim (fun q => (h.new x d q h2).imp id (fun r => ⟨r.1, hq _ r.2⟩)) .inr⟩
theorem Ext.set {n : Int} {out : List Int} {k : Nat} (h : out[k]? = some (-1)) (Q : Nat → Prop) (hq : Q k) : Ext n out (out.set k n) Q := by
  refine ⟨by simp, fun a d h1 h2 => ?_, fun a d h1 h2 => ?_⟩
  · rw [List.getElem?_set]
    split
    · rename_i e; subst e; rw [h] at h1; cases h1; exact absurd rfl h2
    · exact h1
  · rw [List.getElem?_set] at h1
    split at h1
    · rename_i e; subst e
      split at h1
      · cases h1; exact .inr ⟨rfl, hq⟩
      · cases h1
    · exact .inl h1
theorem visitL_ext {n : Int} : ∀ {ks : List Nat} {s s' : List Int × List Nat}, visitL n ks s = some s' → (n ≠ -1) →
    Ext n s.1 s'.1 (· ∈ s'.2) ∧ (∀ a ∈ s.2, a ∈ s'.2) ∧ (∀ a ∈ s'.2, a ∈ s.2 ∨ s'.1[a]? = some n) ∧ (∀ k ∈ ks, s'.1[k]? = some n)
  | [], s, s', h, _ => by cases h; exact ⟨.refl _ _ _, fun _ h => h, fun _ h => .inl h, by simp⟩
  | k :: ks, s, s', h, hn => by
    simp only [visitL, Option.bind_eq_some_iff] at h
    obtain ⟨s1, h1, h2⟩ := h
    obtain ⟨b1, b2, b3, b4⟩ := visitL_ext h2 hn
    have key : Ext n s.1 s1.1 (· ∈ s1.2) ∧ (∀ a ∈ s.2, a ∈ s1.2) ∧ (∀ a ∈ s1.2, a ∈ s.2 ∨ s1.1[a]? = some n) ∧ s1.1[k]? = some n := by
      unfold visit1 at h1
      split at h1
      · rename_i hk
        cases h1
        have hlt := (List.getElem?_eq_some_iff.1 hk).1
        have hset : (s.1.set k n)[k]? = some n := by rw [List.getElem?_set_self hlt]
        refine ⟨.set hk _ (by simp), fun a ha => by simp [ha], fun a ha => ?_, hset⟩
        simp at ha
        rcases ha with ha | ha
        · exact .inl ha
        · subst ha; exact .inr hset
      · split at h1
        · rename_i hk; cases h1; exact ⟨.refl _ _ _, fun _ h => h, fun _ h => .inl h, hk⟩
        · cases h1
    obtain ⟨a1, a2, a3, a4⟩ := key
    refine ⟨a1.trans b1 b2, fun a ha => b2 a (a2 a ha), fun a ha => ?_, fun x hx => ?_⟩
    · rcases b3 a ha with q | q
      · exact (a3 a q).imp id (fun r => b1.keep a n r hn)
      · exact .inr q
    · rcases List.mem_cons.1 hx with rfl | hx
      · exact b1.keep _ n a4 hn
      · exact b4 x hx
/-- A visit sets only what it is told to. -/
theorem visit_only {n : Int} : ∀ {ks : List Nat} {s s' : List Int × List Nat}, visitL n ks s = some s' → ∀ (x : Nat) (d : Int), s'.1[x]? = some d → d ≠ -1 → s.1[x]? = some d ∨ x ∈ ks
  | [], s, s', h, x, d, h1, _ => by cases h; exact .inl h1
  | k :: ks, s, s', h, x, d, h1, h2 => by
    simp only [visitL, Option.bind_eq_some_iff] at h
    obtain ⟨s1, q1, q2⟩ := h
    rcases visit_only q2 x d h1 h2 with r | r
    · unfold visit1 at q1
      split at q1
      · cases q1
        rw [List.getElem?_set] at r
        split at r
        · rename_i e; subst e; exact .inr (by simp)
        · exact .inl r
      · split at q1
        · cases q1; exact .inl r
        · cases q1
    · exact .inr (by simp [r])
theorem visitL_none {n : Int} : ∀ {ks : List Nat} {s : List Int × List Nat}, visitL n ks s = none → (n ≠ -1) → (∀ k ∈ ks, k < s.1.length) → ∃ k ∈ ks, ∃ d, s.1[k]? = some d ∧ d ≠ -1 ∧ d ≠ n
  | [], s, h, _, _ => by cases h
  | k :: ks, s, h, hn, hl => by
    simp only [visitL, Option.bind_eq_none_iff] at h
    have hkl : k < s.1.length := hl k (by simp)
    have hk : s.1[k]? = some s.1[k] := List.getElem?_eq_getElem hkl
    cases h1 : visit1 n s k with
    | none =>
      unfold visit1 at h1
      split at h1
      · cases h1
      · rename_i q1
        split at h1
        · cases h1
        · rename_i q2
          rw [hk] at q1 q2
          exact ⟨k, by simp, _, hk, fun e => q1 (by rw [e]), fun e => q2 (by rw [e])⟩
    | some s1 =>
      have e1 : Ext n s.1 s1.1 (· ∈ s1.2) := (visitL_ext (ks := [k]) (s := s) (s' := s1) (by simp [visitL, h1]) hn).1
      obtain ⟨x, hx, d, q1, q2, q3⟩ := visitL_none (h s1 h1) hn (fun x hx => by rw [e1.len]; exact hl x (by simp [hx]))
      rcases e1.new x d q1 q2 with r | r
      · exact ⟨x, by simp [hx], d, r, q2, q3⟩
      · exact absurd r.1 q3

/-- The walk's queue holds what is not yet gone into. -/
structure WInv (hs : List Hnd) (code : List Ins) (out : List Int) (left : List Nat) (most : Int) extends FInv hs code out most where
  q : ∀ a ∈ left, ∃ d, out[a]? = some d ∧ d ≠ -1
  cl : ∀ (a : Nat) (d : Int) (i : Ins), out[a]? = some d → d ≠ -1 → code[a]? = some i → a ∈ left ∨ Cl hs out most a d i
theorem walk_law (hc : codeOk hs code) : ∀ (f : Nat) (out : List Int) (left : List Nat) (most : Int), WInv hs code out left most → WfW code.length out left → unr out + left.length < f →
    (∃ o m, walkGo hs code f out left most = some (o, m) ∧ Good hs code o m) ∨ (walkGo hs code f out left most = none ∧ Bad hs code)
  | 0, _, _, _, _, _, h => by omega
  | f + 1, out, [], most, hI, _, _ => .inl ⟨out, most, rfl, ⟨hI.toFInv, fun a d i h1 h2 h3 => (hI.cl a d i h1 h2 h3).resolve_left (by simp)⟩⟩
  | f + 1, out, a :: left, most, hI, hw, hf => by
    simp only [List.length_cons] at hf
    have hw' : WfW code.length out left := ⟨hw.len, hw.rng, fun x hx => hw.q x (by simp [hx])⟩
    rw [walkGo]
    by_cases ha : a = code.length
    · rw [if_pos ha]
      refine walk_law hc f out left most ⟨hI.toFInv, fun x hx => hI.q x (by simp [hx]), fun x d i h1 h2 h3 => ?_⟩ hw' (by omega)
      rcases hI.cl x d i h1 h2 h3 with q | q
      · rcases List.mem_cons.1 q with q | q
        · have := (List.getElem?_eq_some_iff.1 h3).1; omega
        · exact .inl q
      · exact .inr q
    · rw [if_neg ha]
      have hal := hw.q a (by simp)
      have hlt : a < code.length := by omega
      have hi : code[a]? = some code[a] := List.getElem?_eq_getElem hlt
      obtain ⟨d, hd, hd1⟩ := hI.q a (by simp)
      obtain ⟨hr, hd0⟩ := hI.sound a d hd hd1
      have hp := putsV_range (code[a]).op
      have htk := takesV_range (hc.2 _ (List.getElem_mem hlt)).1
      simp only [hi, hd]
      by_cases hb : d - takesV hs code[a] < 0 ∨ d - takesV hs code[a] + putsV (code[a]).op > 8
      · rw [if_pos hb]
        exact .inr ⟨rfl, .inl ⟨a, d, _, hr, hi, by omega⟩⟩
      · rw [if_neg hb]
        have hks := nextV_le hc hi
        have hrk : ∀ k ∈ nextV a code[a], Rch hs code k (d - takesV hs code[a] + putsV (code[a]).op) := fun k hk => .step hr hi (by omega) (by omega) hk
        generalize hn : d - takesV hs code[a] + putsV (code[a]).op = n at hb hrk ⊢
        have hn0 : 0 ≤ n ∧ n ≤ 8 := by omega
        cases hv : visitL n (nextV a code[a]) (out, left) with
        | none =>
          obtain ⟨k, hk, e, h1, h2, h3⟩ := visitL_none hv (by omega) (fun k hk => by have := hks k hk; have := hI.len; simp only; omega)
          exact .inr ⟨rfl, .inr ⟨k, e, n, (hI.sound k e h1 h2).1, hrk k hk, h3⟩⟩
        | some s =>
          obtain ⟨b1, b2, b3, b4⟩ := visitL_ext hv (by omega)
          obtain ⟨w1, w2⟩ := visitL_ok hv hks hn0 hw'
          simp only at b1 b2 w2
          have hrd := hw.rng d (List.mem_of_getElem? hd)
          refine walk_law hc f s.1 s.2 _ ⟨⟨by rw [b1.len]; exact hI.len, b1.keep 0 0 hI.zero (by omega), ?_, ?_, by have := hI.m0; omega⟩, ?_, ?_⟩ w1 (by omega)
          · intro x e h1 h2
            rcases b1.new x e h1 h2 with q | ⟨q, q'⟩
            · exact hI.sound x e q h2
            · subst q
              rcases visit_only hv x e h1 h2 with r | r
              · exact hI.sound x e r h2
              · exact ⟨hrk x r, hn0.1⟩
          · rcases Int.lt_or_le most (max d n) with hm | hm
            · refine .inr ⟨a, d, _, b1.keep a d hd hd1, hd1, hi, ?_⟩
              rw [hn]; omega
            · have e : max (max most d) n = most := by omega
              rw [e]
              rcases hI.att with q | ⟨x, e, i, h1, h2, h3, h4⟩
              · exact .inl q
              · exact .inr ⟨x, e, i, b1.keep x e h1 h2, h2, h3, h4⟩
          · intro x hx
            rcases b3 x hx with q | q
            · obtain ⟨e, h1, h2⟩ := hI.q x (by simp only at q; simp [q])
              exact ⟨e, b1.keep x e h1 h2, h2⟩
            · exact ⟨n, q, by omega⟩
          · intro x e i h1 h2 h3
            rcases b1.new x e h1 h2 with q | ⟨q, q'⟩
            · by_cases hxa : x = a
              · subst hxa
                rw [hd] at q; cases q
                rw [hi] at h3; cases h3
                refine .inr ⟨by omega, by omega, fun k hk => ?_, by omega, by omega⟩
                rw [hn]; exact b4 k hk
              · rcases hI.cl x e i q h2 h3 with r | ⟨c1, c2, c3, c4, c5⟩
                · rcases List.mem_cons.1 r with r | r
                  · exact absurd r hxa
                  · exact .inl (b2 x r)
                · have := putsV_range i.op
                  exact .inr ⟨c1, c2, fun k hk => b1.keep k _ (c3 k hk) (by omega), by omega, by omega⟩
            · exact .inl q'

/-! ### The reference's passes -/

theorem rvisitL_ext {d : Int} : ∀ {ks : List Nat} {s s' : List Int × Bool}, rvisitL d ks s = some s' → (0 ≤ d) → (∀ x ∈ s.1, -1 ≤ x) →
    Ext d s.1 s'.1 (· ∈ ks) ∧ (∀ x ∈ s'.1, -1 ≤ x) ∧ (s'.2 = false → s.2 = false ∧ s'.1 = s.1 ∧ ∀ k ∈ ks, s.1[k]? = some d)
  | [], s, s', h, _, hx => by cases h; exact ⟨.refl _ _ _, hx, fun h => ⟨h, rfl, by simp⟩⟩
  | k :: ks, s, s', h, hd, hx => by
    simp only [rvisitL, Option.bind_eq_some_iff] at h
    obtain ⟨s1, h1, h2⟩ := h
    unfold rvisit1 at h1
    split at h1
    · rename_i x hk
      split at h1
      · cases h1
      · rename_i hne
        split at h1
        · rename_i hneg
          cases h1
          have hxm := hx x (List.mem_of_getElem? hk)
          have hx1 : x = -1 := by omega
          subst hx1
          obtain ⟨b1, b2, b3⟩ := rvisitL_ext h2 hd (fun y hy => by
              rcases List.mem_or_eq_of_mem_set hy with hy | hy
              · exact hx y hy
              · omega)
          refine ⟨(Ext.set hk (· ∈ k :: ks) (by simp)).trans (R := (· ∈ k :: ks)) ⟨b1.len, b1.keep, fun a e q1 q2 => (b1.new a e q1 q2).imp id (fun r => ⟨r.1, by simp [r.2]⟩)⟩ (fun _ h => h), b2, fun q => ?_⟩
          have := (b3 q).1
          simp at this
        · rename_i hpos
          cases h1
          have hx1 : x = d := by omega
          subst hx1
          obtain ⟨b1, b2, b3⟩ := rvisitL_ext h2 hd hx
          refine ⟨⟨b1.len, b1.keep, fun a e q1 q2 => (b1.new a e q1 q2).imp id (fun r => ⟨r.1, by simp [r.2]⟩)⟩, b2, fun q => ?_⟩
          obtain ⟨c1, c2, c3⟩ := b3 q
          refine ⟨c1, c2, fun y hy => ?_⟩
          rcases List.mem_cons.1 hy with rfl | hy
          · exact hk
          · exact c3 y hy
    · cases h1
theorem rvisitL_none {d : Int} : ∀ {ks : List Nat} {s : List Int × Bool}, rvisitL d ks s = none → (0 ≤ d) → (∀ x ∈ s.1, -1 ≤ x) → (∀ k ∈ ks, k < s.1.length) → ∃ k ∈ ks, ∃ e, s.1[k]? = some e ∧ e ≠ -1 ∧ e ≠ d
  | [], s, h, _, _, _ => by cases h
  | k :: ks, s, h, hd, hx, hl => by
    simp only [rvisitL, Option.bind_eq_none_iff] at h
    have hkl : k < s.1.length := hl k (by simp)
    have hk : s.1[k]? = some s.1[k] := List.getElem?_eq_getElem hkl
    cases h1 : rvisit1 d s k with
    | none =>
      unfold rvisit1 at h1
      rw [hk] at h1
      simp only at h1
      split at h1
      · rename_i q; exact ⟨k, by simp, _, hk, by omega, q.2⟩
      · split at h1 <;> cases h1
    | some s1 =>
      obtain ⟨e1, e2, _⟩ := rvisitL_ext (ks := [k]) (s := s) (s' := s1) (by simp [rvisitL, h1]) hd hx
      obtain ⟨x, hx', e, q1, q2, q3⟩ := rvisitL_none (h s1 h1) hd e2 (fun x hx => by rw [e1.len]; exact hl x (by simp [hx]))
      rcases e1.new x e q1 q2 with r | r
      · exact ⟨x, by simp [hx'], e, r, q2, q3⟩
      · exact absurd r.1 q3
theorem Inv_ge {out : List Int} {most : Int} (h : FInv hs code out most) (hr : ∀ x ∈ out, -1 ≤ x ∧ x ≤ 8) : ∀ x ∈ out, -1 ≤ x := fun x hx => (hr x hx).1
/-- One step of a pass. -/
theorem rstep_law (hc : codeOk hs code) {s : RS} {i : Nat} (hi : i < code.length) (hI : FInv hs code s.l s.most) (hw : WfR code.length s.l) :
    (∃ s', rstep hs code s i = some s' ∧ FInv hs code s'.l s'.most ∧ s.most ≤ s'.most ∧ (s'.again = false → s.again = false ∧ s'.l = s.l ∧ ∀ (d : Int) (c : Ins), s.l[i]? = some d → d ≠ -1 → code[i]? = some c → Cl hs s.l s'.most i d c)) ∨ (rstep hs code s i = none ∧ Bad hs code) := by
  have hil : i < s.l.length := by rw [hI.len]; omega
  have hx : s.l[i]? = some s.l[i] := List.getElem?_eq_getElem hil
  have hcc : code[i]? = some code[i] := List.getElem?_eq_getElem hi
  have hge := fun x hx => (hw.rng x hx).1
  have hxg := hge _ (List.getElem_mem hil)
  unfold rstep
  simp only [hx, hcc]
  by_cases h0 : s.l[i] < 0
  · rw [if_pos h0]
    refine .inl ⟨s, rfl, hI, Int.le_refl _, fun h => ⟨h, rfl, fun d c h1 h2 => ?_⟩⟩
    cases h1; exact absurd (by omega) h2
  · rw [if_neg h0]
    obtain ⟨hr, hd0⟩ := hI.sound i _ hx (by omega)
    have hp := putsV_range (code[i]).op
    by_cases hb : s.l[i] < takesV hs code[i] ∨ s.l[i] - takesV hs code[i] + putsV (code[i]).op > 8
    · rw [if_pos hb]
      exact .inr ⟨rfl, .inl ⟨i, _, _, hr, hcc, hb⟩⟩
    · rw [if_neg hb]
      have hks := nextV_le hc hcc
      have hrk : ∀ k ∈ nextV i code[i], Rch hs code k (s.l[i] - takesV hs code[i] + putsV (code[i]).op) := fun k hk => .step hr hcc (by omega) (by omega) hk
      generalize hn : s.l[i] - takesV hs code[i] + putsV (code[i]).op = n at hb hrk ⊢
      have hn0 : 0 ≤ n := by omega
      cases hv : rvisitL n (nextV i code[i]) (s.l, s.again) with
      | none =>
        obtain ⟨k, hk, e, h1, h2, h3⟩ := rvisitL_none hv hn0 hge (fun k hk => by have := hks k hk; have := hI.len; simp only; omega)
        exact .inr ⟨rfl, .inr ⟨k, e, n, (hI.sound k e h1 h2).1, hrk k hk, h3⟩⟩
      | some r =>
        obtain ⟨b1, b2, b3⟩ := rvisitL_ext hv hn0 hge
        simp only at b1 b3
        refine .inl ⟨_, rfl, ⟨by rw [b1.len]; exact hI.len, b1.keep 0 0 hI.zero (by omega), ?_, ?_, by have := hI.m0; simp only; omega⟩, by simp only; omega, ?_⟩
        · intro x e h1 h2
          rcases b1.new x e h1 h2 with q | ⟨q, q'⟩
          · exact hI.sound x e q h2
          · subst q; exact ⟨hrk x q', hn0⟩
        · rcases Int.lt_or_le s.most (max s.l[i] n) with hm | hm
          · refine .inr ⟨i, s.l[i], _, b1.keep i _ hx (by omega), by omega, hcc, ?_⟩
            rw [hn]; simp only; omega
          · have e : max (max s.most s.l[i]) n = s.most := by omega
            simp only
            rw [e]
            rcases hI.att with q | ⟨x, e, c, h1, h2, h3, h4⟩
            · exact .inl q
            · exact .inr ⟨x, e, c, b1.keep x e h1 h2, h2, h3, h4⟩
        · intro hag
          obtain ⟨c1, c2, c3⟩ := b3 hag
          refine ⟨c1, c2, fun d c h1 h2 h3 => ?_⟩
          cases h1
          cases h3
          refine ⟨by omega, by omega, fun k hk => ?_, by simp only; omega, by simp only; omega⟩
          rw [hn]; exact c3 k hk
theorem Cl.mono {out : List Int} {m n : Int} {a : Nat} {d : Int} {i : Ins} (h : Cl hs out m a d i) (hmn : m ≤ n) : Cl hs out n a d i :=
  ⟨h.1, h.2.1, h.2.2.1, Int.le_trans h.2.2.2.1 hmn, Int.le_trans h.2.2.2.2 hmn⟩
theorem rpass_law (hc : codeOk hs code) : ∀ (is : List Nat) (s : RS), (∀ i ∈ is, i < code.length) → FInv hs code s.l s.most → WfR code.length s.l →
    (∃ s', rpass hs code is s = some s' ∧ FInv hs code s'.l s'.most ∧ s.most ≤ s'.most ∧ (s'.again = false → s.again = false ∧ s'.l = s.l ∧ ∀ i ∈ is, ∀ (d : Int) (c : Ins), s.l[i]? = some d → d ≠ -1 → code[i]? = some c → Cl hs s.l s'.most i d c)) ∨ (rpass hs code is s = none ∧ Bad hs code)
  | [], s, _, hI, _ => .inl ⟨s, rfl, hI, Int.le_refl _, fun h => ⟨h, rfl, by simp⟩⟩
  | i :: is, s, hi, hI, hw => by
    rcases rstep_law hc (hi i (by simp)) hI hw with ⟨s1, a1, a2, a3, a4⟩ | ⟨a1, a2⟩
    · have hw1 := (rstep_ok a1 hc hw).1
      rcases rpass_law hc is s1 (fun j hj => hi j (by simp [hj])) a2 hw1 with ⟨s2, b1, b2, b3, b4⟩ | ⟨b1, b2⟩
      · refine .inl ⟨s2, by simp [rpass, a1, b1], b2, Int.le_trans a3 b3, fun h => ?_⟩
        obtain ⟨c1, c2, c3⟩ := b4 h
        obtain ⟨d1, d2, d3⟩ := a4 c1
        refine ⟨d1, c2.trans d2, fun j hj d c h1 h2 h3 => ?_⟩
        rcases List.mem_cons.1 hj with rfl | hj
        · exact (d3 d c h1 h2 h3).mono b3
        · have := c3 j hj d c (by rw [d2]; exact h1) h2 h3
          rwa [d2] at this
      · exact .inr ⟨by simp [rpass, a1, b1], b2⟩
    · exact .inr ⟨by simp [rpass, a1], a2⟩
theorem rgo_law (hc : codeOk hs code) : ∀ (f : Nat) (l : List Int) (most : Int), FInv hs code l most → WfR code.length l → unr l < f →
    (∃ o m, rgo hs code f l most = some (o, m) ∧ Good hs code o m) ∨ (rgo hs code f l most = none ∧ Bad hs code)
  | 0, _, _, _, _, h => by omega
  | f + 1, l, most, hI, hw, hf => by
    rcases rpass_law hc (List.range code.length) ⟨l, most, false⟩ (by simp) hI hw with ⟨s, a1, a2, a3, a4⟩ | ⟨a1, a2⟩
    · rw [rgo, a1]
      simp only
      obtain ⟨hws, hun⟩ := rpass_ok hc a1 hw
      by_cases hag : s.again = true
      · rw [if_pos hag]
        rcases hun with ⟨q, _⟩ | ⟨_, q⟩
        · rw [hag] at q; cases q
        · exact rgo_law hc f s.l s.most a2 hws (by simp only at q; omega)
      · rw [if_neg hag]
        obtain ⟨_, c2, c3⟩ := a4 (by simpa using hag)
        refine .inl ⟨s.l, s.most, rfl, a2, fun a d i h1 h2 h3 => ?_⟩
        simp only at c2 c3
        rw [c2] at h1 ⊢
        exact c3 a (by simpa using (List.getElem?_eq_some_iff.1 h3).1) d i h1 h2 h3
    · exact .inr ⟨by rw [rgo, a1], a2⟩
theorem start_inv : FInv hs code ((List.replicate (code.length + 1) (-1)).set 0 0) 0 := by
  refine ⟨by simp, by simp [List.replicate_succ], fun a d h1 h2 => ?_, .inl rfl, Int.le_refl _⟩
  rw [List.getElem?_set] at h1
  split at h1
  · rename_i e; subst e
    simp at h1; subst h1
    exact ⟨.start, Int.le_refl _⟩
  · have := List.eq_of_mem_replicate (List.mem_of_getElem? h1)
    exact absurd this h2
theorem start_rng : ∀ x ∈ ((List.replicate (code.length + 1) (-1)).set 0 0 : List Int), -1 ≤ x ∧ x ≤ 8 := by
  intro x hx
  rcases List.mem_or_eq_of_mem_set hx with hx | hx
  · have := List.eq_of_mem_replicate hx; omega
  · omega
theorem start_unr : unr ((List.replicate (code.length + 1) (-1)).set 0 0) = code.length := by
  simp [unr, List.replicate_succ, List.countP_replicate]
theorem walk_good (hc : codeOk hs code) : (∃ o m, walkV hs code = some (o, m) ∧ Good hs code o m) ∨ (walkV hs code = none ∧ Bad hs code) := by
  refine walk_law hc _ _ _ _ ⟨start_inv, ?_, ?_⟩ ⟨by simp, start_rng, by simp⟩ (by rw [start_unr]; simp)
  · intro a ha
    simp at ha; subst ha
    exact ⟨0, by simp [List.replicate_succ], by omega⟩
  · intro a d i h1 h2 _
    rw [List.getElem?_set] at h1
    split at h1
    · rename_i e; subst e; exact .inl (by simp)
    · have := List.eq_of_mem_replicate (List.mem_of_getElem? h1)
      exact absurd this h2
theorem rwalk_good (hc : codeOk hs code) : (∃ o m, rwalkV hs code = some (o, m) ∧ Good hs code o m) ∨ (rwalkV hs code = none ∧ Bad hs code) :=
  rgo_law hc _ _ _ start_inv ⟨by simp, start_rng⟩ (by rw [start_unr]; omega)
/-- Both come to the same. -/
theorem walk_eq (hc : codeOk hs code) : rwalkV hs code = walkV hs code := by
  rcases walk_good hc with ⟨o, m, h1, h2⟩ | ⟨h1, h2⟩ <;> rcases rwalk_good hc with ⟨p, n, k1, k2⟩ | ⟨k1, k2⟩
  · obtain ⟨e1, e2⟩ := h2.uniq k2
    rw [h1, k1, e1, e2]
  · exact absurd k2 h2.not_bad
  · exact absurd h2 k2.not_bad
  · rw [h1, k1]
end

end Go.Gv
