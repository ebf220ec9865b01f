/- Texts of this proof, one behind the other. What is proved, and on which conditions, stands ahead of each. -/
import Derived.Test.YtpaeffcpdpblcaaGreatProg
import Derived.Test.YtpaeffcpdpblcaaGreatM16db3c55

/- What a plan's alive answers: the handlers that may ever be run. Conditions: those that each law names. -/
set_option linter.unusedVariables false
set_option linter.unusedSimpArgs false
namespace Go.Gv
open Go.Proofs

def idxf_r0 : List AI := [⟨(some 4), none, (.op (.mv (.c (.int .i64 0))))⟩]
def idxf_r1 : List AI := [⟨(some 6), none, (.op (.mv (.t 0)))⟩, ⟨(some 7), none, (.op (.len (.t 6)))⟩, ⟨(some 8), none, (.op (.mv (.c (.int .i64 0))))⟩]
def idxf_r2 : List AI := [⟨(some 9), none, (.op (.ibin .lss (.t 8) (.t 7)))⟩]
def idxf_r3 : List AI := [⟨(some 10), none, (.op (.mv (.t 8)))⟩, ⟨(some 5), none, (.op (.mv (.t 10)))⟩]
def idxf_r4 : List AI := [⟨(some 11), none, (.op (.mv (.t 1)))⟩, ⟨(some 12), none, (.op (.mv (.t 0)))⟩, ⟨(some 13), none, (.op (.mv (.t 5)))⟩, ⟨(some 14), none, (.op (.idx 1 (.t 12) (.t 13)))⟩, ⟨(some 15), none, (.op (.load none (.t 14)))⟩, ⟨(some 16), none, (.call (.t 11) [(.t 15)])⟩]
def idxf_r5 : List AI := [⟨(some 17), none, (.op (.mv (.t 5)))⟩, ⟨(some 4), none, (.op (.mv (.t 17)))⟩]
def idxf_r6 : List AI := [⟨(some 18), none, (.op (.ibin .add (.t 8) (.c (.int .i64 1))))⟩, ⟨(some 8), none, (.op (.mv (.t 18)))⟩]
def idxf_l0 : AC := (.seq (.reg idxf_r2) (.seq (.cond (.t 9) .skip (.exit 0)) (.seq (.block 1 (.seq (.reg idxf_r3) (.seq (.reg idxf_r4) (.cond (.t 16) (.seq (.reg idxf_r5) .ret) .skip)))) (.reg idxf_r6))))
def idxf_r7 : List AI := [⟨(some 4), none, (.op (.mv (.c (.int .i64 (-1)))))⟩]
def idxf_c : AC := (.seq (.reg idxf_r0) (.seq (.seq (.reg idxf_r1) (.block 0 (.loop idxf_l0))) (.seq (.reg idxf_r7) .ret)))
def idxf_res : List ARes := [(.tmp 4)]
set_option maxRecDepth 100000 in
theorem idxf_get : getF Tryz.prog 105 133000 [] = some ("slices.IndexFunc[[]int,int]", 19, idxf_c, idxf_res) := by kernel_rfl
def contf_r0 : List AI := [⟨(some 4), none, (.op (.mv (.c (.bool false))))⟩]
def contf_r1 : List AI := [⟨(some 5), none, (.op (.mv (.t 0)))⟩, ⟨(some 6), none, (.op (.mv (.t 1)))⟩, ⟨(some 7), none, (.call (.c (.fn 105 [])) [(.t 5), (.t 6)])⟩, ⟨(some 8), none, (.op (.ibin .geq (.t 7) (.c (.int .i64 0))))⟩, ⟨(some 4), none, (.op (.mv (.t 8)))⟩]
def contf_c : AC := (.seq (.reg contf_r0) (.seq (.reg contf_r1) .ret))
def contf_res : List ARes := [(.tmp 4)]
set_option maxRecDepth 100000 in
theorem contf_get : getF Tryz.prog 81 134000 [] = some ("slices.ContainsFunc[[]int,int]", 9, contf_c, contf_res) := by kernel_rfl
def alive_r0 : List AI := [⟨(some 1), none, (.op (.box 131501 1 (.t 0)))⟩, ⟨(some 2), none, (.op (.mv (.c .nils)))⟩]
def alive_r1 : List AI := [⟨(some 3), none, (.op (.mv (.c .nils)))⟩]
def alive_r2 : List AI := [⟨(some 11), none, (.op (.load none (.t 1)))⟩, ⟨(some 12), none, (.op (.nilck (.t 11)))⟩, ⟨(some 13), none, (.op (.fld 0 (.t 12)))⟩, ⟨(some 14), none, (.op (.fld 2 (.t 13)))⟩, ⟨(some 15), none, (.op (.load none (.t 14)))⟩, ⟨(some 16), none, (.op (.len (.t 15)))⟩, ⟨(some 17), none, (.op (.mv (.c (.int .i64 0))))⟩]
def alive_r3 : List AI := [⟨(some 18), none, (.op (.ibin .lss (.t 17) (.t 16)))⟩]
def alive_r4 : List AI := [⟨(some 19), none, (.op (.idx 3 (.t 15) (.t 17)))⟩, ⟨(some 20), none, (.op (.load (some 3) (.t 19)))⟩, ⟨(some 5), none, (.op (.new 131505 3 (.agg [(.int .i64 0), (.int .i64 0), .nils])))⟩, ⟨none, none, (.op (.store 3 (.t 5) (.t 20)))⟩]
def alive_r5 : List AI := [⟨(some 21), none, (.op (.mv (.t 3)))⟩, ⟨(some 22), none, (.op (.fld 1 (.t 5)))⟩, ⟨(some 23), none, (.op (.load none (.t 22)))⟩, ⟨(some 24), none, (.op (.bsl 131524 1 3 1 (.int .i64 0) [(0, (.t 23))]))⟩, ⟨(some 25), none, (.op (.app 131525 1 3 8 (.t 21) (.t 24)))⟩, ⟨(some 3), none, (.op (.mv (.t 25)))⟩]
def alive_r6 : List AI := [⟨(some 26), none, (.op (.ibin .add (.t 17) (.c (.int .i64 1))))⟩, ⟨(some 17), none, (.op (.mv (.t 26)))⟩]
def alive_l0 : AC := (.seq (.reg alive_r3) (.seq (.cond (.t 18) .skip (.exit 0)) (.seq (.block 1 (.seq (.reg alive_r4) (.reg alive_r5))) (.reg alive_r6))))
def alive_r7 : List AI := [⟨(some 27), none, (.op (.load none (.t 1)))⟩, ⟨(some 28), none, (.op (.nilck (.t 27)))⟩, ⟨(some 29), none, (.op (.fld 0 (.t 28)))⟩, ⟨(some 30), none, (.op (.fld 1 (.t 29)))⟩, ⟨(some 31), none, (.op (.load none (.t 30)))⟩, ⟨(some 32), none, (.op (.len (.t 31)))⟩, ⟨(some 33), none, (.op (.mv (.c (.int .i64 0))))⟩]
def alive_r8 : List AI := [⟨(some 34), none, (.op (.ibin .lss (.t 33) (.t 32)))⟩]
def alive_r9 : List AI := [⟨(some 35), none, (.op (.idx 4 (.t 31) (.t 33)))⟩, ⟨(some 36), none, (.op (.load (some 4) (.t 35)))⟩, ⟨(some 7), none, (.op (.new 131507 4 (.agg [.nils, (.int .i64 0), (.int .i64 0), (.bool false)])))⟩, ⟨none, none, (.op (.store 4 (.t 7) (.t 36)))⟩]
def alive_r10 : List AI := [⟨(some 37), none, (.op (.fld 3 (.t 7)))⟩, ⟨(some 38), none, (.op (.load none (.t 37)))⟩]
def alive_r11 : List AI := [⟨(some 39), none, (.op (.mv (.t 3)))⟩, ⟨(some 40), none, (.op (.fld 2 (.t 7)))⟩, ⟨(some 41), none, (.op (.load none (.t 40)))⟩, ⟨(some 42), none, (.op (.bsl 131542 1 3 1 (.int .i64 0) [(0, (.t 41))]))⟩, ⟨(some 43), none, (.op (.app 131525 1 3 8 (.t 39) (.t 42)))⟩, ⟨(some 3), none, (.op (.mv (.t 43)))⟩]
def alive_r12 : List AI := [⟨(some 44), none, (.op (.ibin .add (.t 33) (.c (.int .i64 1))))⟩, ⟨(some 33), none, (.op (.mv (.t 44)))⟩]
def alive_l1 : AC := (.seq (.reg alive_r8) (.seq (.cond (.t 34) .skip (.exit 2)) (.seq (.block 3 (.seq (.reg alive_r9) (.seq (.reg alive_r10) (.cond (.t 38) (.reg alive_r11) .skip)))) (.reg alive_r12))))
def alive_r13 : List AI := [⟨(some 45), none, (.op (.load none (.t 1)))⟩, ⟨(some 46), none, (.op (.mv (.t 3)))⟩, ⟨(some 47), none, (.call (.c (.fn 63 [])) [(.t 45), (.t 46)])⟩, ⟨(some 8), none, (.op (.mv (.t 47)))⟩]
def alive_r14 : List AI := [⟨(some 48), none, (.op (.mv (.t 8)))⟩, ⟨(some 49), none, (.op (.mkf 82 [(.t 1)]))⟩, ⟨(some 50), none, (.call (.c (.fn 81 [])) [(.t 48), (.t 49)])⟩]
def alive_r15 : List AI := [⟨(some 51), none, (.op (.load none (.t 1)))⟩, ⟨(some 52), none, (.op (.nilck (.t 51)))⟩, ⟨(some 53), none, (.op (.fld 0 (.t 52)))⟩, ⟨(some 54), none, (.op (.fld 1 (.t 53)))⟩, ⟨(some 55), none, (.op (.load none (.t 54)))⟩, ⟨(some 56), none, (.op (.len (.t 55)))⟩, ⟨(some 57), none, (.op (.mv (.c (.int .i64 0))))⟩]
def alive_r16 : List AI := [⟨(some 58), none, (.op (.ibin .lss (.t 57) (.t 56)))⟩]
def alive_r17 : List AI := [⟨(some 59), none, (.op (.idx 4 (.t 55) (.t 57)))⟩, ⟨(some 60), none, (.op (.load (some 4) (.t 59)))⟩, ⟨(some 10), none, (.op (.new 131510 4 (.agg [.nils, (.int .i64 0), (.int .i64 0), (.bool false)])))⟩, ⟨none, none, (.op (.store 4 (.t 10) (.t 60)))⟩]
def alive_r18 : List AI := [⟨(some 61), none, (.op (.fld 2 (.t 10)))⟩, ⟨(some 62), none, (.op (.load none (.t 61)))⟩, ⟨(some 63), none, (.op (.ibin .geq (.t 62) (.c (.int .i64 0))))⟩]
def alive_r19 : List AI := [⟨(some 64), none, (.op (.mv (.t 8)))⟩, ⟨(some 65), none, (.op (.fld 2 (.t 10)))⟩, ⟨(some 66), none, (.op (.load none (.t 65)))⟩, ⟨(some 67), none, (.op (.bsl 131567 1 3 1 (.int .i64 0) [(0, (.t 66))]))⟩, ⟨(some 68), none, (.op (.app 132049 1 3 8 (.t 64) (.t 67)))⟩, ⟨(some 8), none, (.op (.mv (.t 68)))⟩]
def alive_r20 : List AI := [⟨(some 69), none, (.op (.ibin .add (.t 57) (.c (.int .i64 1))))⟩, ⟨(some 57), none, (.op (.mv (.t 69)))⟩]
def alive_l2 : AC := (.seq (.reg alive_r16) (.seq (.cond (.t 58) .skip (.exit 4)) (.seq (.block 5 (.seq (.reg alive_r17) (.seq (.reg alive_r18) (.cond (.t 63) (.reg alive_r19) .skip)))) (.reg alive_r20))))
def alive_r21 : List AI := [⟨(some 70), none, (.op (.load none (.t 1)))⟩, ⟨(some 71), none, (.op (.mv (.t 8)))⟩, ⟨(some 72), none, (.call (.c (.fn 63 [])) [(.t 70), (.t 71)])⟩, ⟨(some 2), none, (.op (.mv (.t 72)))⟩]
def alive_c : AC := (.seq (.reg alive_r0) (.seq (.reg alive_r1) (.seq (.seq (.reg alive_r2) (.block 0 (.loop alive_l0))) (.seq (.seq (.reg alive_r7) (.block 2 (.loop alive_l1))) (.seq (.reg alive_r13) (.seq (.seq (.reg alive_r14) (.cond (.t 50) (.seq (.reg alive_r15) (.block 4 (.loop alive_l2))) .skip)) (.seq (.reg alive_r21) .ret)))))))
def alive_res : List ARes := [(.tmp 2)]
set_option maxRecDepth 100000 in
theorem alive_get : getF Tryz.prog 64 131500 [(43, 25), (68, 549)] = some ("(*gavotte/reach.Plan).alive", 73, alive_c, alive_res) := by kernel_rfl
def alive1_r0 : List AI := [⟨(some 3), none, (.op (.mv (.c (.bool false))))⟩]
def alive1_r1 : List AI := [⟨(some 4), none, (.op (.load none (.t 1)))⟩, ⟨(some 5), none, (.op (.nilck (.t 4)))⟩, ⟨(some 6), none, (.op (.fld 10 (.t 5)))⟩, ⟨(some 7), none, (.op (.load none (.t 6)))⟩, ⟨(some 8), none, (.op (.mv (.t 0)))⟩, ⟨(some 9), none, (.op (.idx 1 (.t 7) (.t 8)))⟩, ⟨(some 10), none, (.op (.load none (.t 9)))⟩, ⟨(some 3), none, (.op (.mv (.t 10)))⟩]
def alive1_c : AC := (.seq (.reg alive1_r0) (.seq (.reg alive1_r1) .ret))
def alive1_res : List ARes := [(.tmp 3)]
set_option maxRecDepth 100000 in
theorem alive1_get : getF Tryz.prog 82 136000 [] = some ("(*gavotte/reach.Plan).alive$1", 11, alive1_c, alive1_res) := by kernel_rfl
attribute [simp] idxf_r0 idxf_r1 idxf_r2 idxf_r3 idxf_r4 idxf_r5 idxf_r6 idxf_r7 idxf_res contf_r0 contf_r1 contf_res alive_r0 alive_r1 alive_r2 alive_r3 alive_r4 alive_r5 alive_r6 alive_r7 alive_r8 alive_r9 alive_r10 alive_r11 alive_r12 alive_r13 alive_r14 alive_r15 alive_r16 alive_r17 alive_r18 alive_r19 alive_r20 alive_r21 alive_res alive1_r0 alive1_r1 alive1_res


-- The names that reach's own functions use.
def LR (n : Nat) : Bool := decide (99000 ≤ n) && decide (n < 99001) || decide (130000 ≤ n) && decide (n < 160000) || decide (1000130000 ≤ n) && decide (n < 1000160000)
theorem ne_LR {nm : Nat} (h : LR nm = false) (i : Nat) (hi : LR i = true) : (nm = i) = False := eq_false (fun e => by rw [← e, h] at hi; cases hi)
theorem ne_LR' {nm : Nat} (h : LR nm = false) (i : Nat) (hi : LR i = true) : (i = nm) = False := eq_false (fun e => by rw [e, h] at hi; cases hi)
theorem Frl.fh {Lb Lt : List Nat} {S S' : St} (h : Frl Lb Lt S S') (hc : S.clk ≤ S'.clk) (h1 : ∀ n ∈ Lb, LR n = true) (h2 : ∀ n ∈ Lt, LR n = true) : Fh LR S S' :=
  ⟨fun n hn => h.b n (fun q => by rw [h1 n q] at hn; cases hn), fun n hn => h.k n (fun q => by rw [h2 n q] at hn; cases hn), hc⟩
def planC (p : Prg) (dn lk sm md : Int) (v8 v9 v10 v11 : AV) : List AV := [.lst 2 (p.hs.map Hnd.av), .lst 4 (p.as.map Actr.av), .lst 3 (p.boot.map Nt.av), iv p.fuel, .int .u32 dn, .int .i32 lk, .int .u32 sm, iv md, v8, v9, v10, v11]
theorem LstV.idxB {v : AV} {arms : List Bool} (h : LstV v (arms.map AV.bool)) (blk : Nat → Option Blk) (i : Nat) (hi : i < arms.length) : idxA blk 1 v i = some (.kp [.bool arms[i]] 0) := by
  rcases h with rfl | ⟨nm, st, rfl⟩ | ⟨rfl, h⟩
  · simp [hi]
  · simp [hi]
  · have : arms = [] := by simpa using h
    subst this; simp at hi
theorem alive1_v (nm st s1 : Nat) (h1 : nm ≠ 131501) (p : Prg) (dn lk sm md : Int) (v8 v9 v10 v11 : AV) (arms : List Bool) (hv : LstV v10 (arms.map AV.bool)) (x : Int) (hx : 0 ≤ x ∧ x < arms.length) {S : St} {k : AV → St → Prop} {u : Dep k}
    (hb1 : S.blk 131501 = some ⟨s1, 1, [.ptr nm st 12 0 0]⟩) (hb : S.blk nm = some ⟨st, 12, [.agg (planC p dn lk sm md v8 v9 v10 v11)]⟩)
    (hk : ∀ S', S'.t = S.t → S'.blk = S.blk → S'.tok = S.tok → S.clk ≤ S'.clk → k (.bool ((arms[x.toNat]?).getD false)) S') :
    CallG Tryz.prog (.fn 82 [.ptr 131501 s1 1 0 0]) [iv x] S k u := by
  refine callV alive1_get (by simp) (by simp) ?_
  unfold alive1_c
  have hlt : x.toNat < arms.length := by omega
  have hi := hv.idxB
  simp [hb1, hb, planC, hx.1, hi _ _ hlt]
  have e : (arms[x.toNat]?).getD false = arms[x.toNat] := by simp [hlt]
  rw [e] at hk
  exact hk _ rfl rfl rfl (by simp; omega)
/-- The first place at which p holds, or -1. -/
def idxV (p : Int → Bool) (l : List Int) : Int := match l.findIdx? p with | some i => (i : Int) | none => -1
theorem indexF_v (l : List Int) (hl : l.length < 1000000) (fv : AV) (p : Int → Bool) {S : St} {k : AV → St → Prop} {u : Dep k}
    (hf : ∀ x ∈ l, ∀ (S' : St) (κ : AV → St → Prop), S'.blk = S.blk → S'.tok = S.tok → (∀ S'', S''.t = S'.t → S''.blk = S'.blk → S''.tok = S'.tok → S'.clk ≤ S''.clk → κ (.bool (p x)) S'') → CallG Tryz.prog fv [iv x] S' κ .mk)
    (hk : ∀ (i : Int) (S' : St), (0 ≤ i ↔ l.any p = true) → S'.t = S.t → S'.blk = S.blk → S'.tok = S.tok → S.clk ≤ S'.clk → k (iv i) S') :
    CallG Tryz.prog (.fn 105 []) [ints l, fv] S k u := by
  refine callV idxf_get (by simp) (by simp) ?_
  unfold idxf_c
  simp [ints]
  refine loopN (fun i S' => S'.t 0 = .lst 1 (l.map iv) ∧ S'.t 1 = fv ∧ S'.t 7 = iv l.length ∧ S'.t 8 = iv i ∧ S'.blk = S.blk ∧ S'.tok = S.tok ∧ S.clk ≤ S'.clk ∧ (∀ x ∈ l.take i, p x = false)) l.length ?_ ?_
  · refine ⟨by simp, by simp, by simp, by simp, rfl, rfl, by simp; omega, by simp⟩
  · rintro i S' hi ⟨g0, g1, g7, g8, gb, gk, gc, gp⟩
    by_cases hlt : i < l.length
    · have hw := wrap_succ i _ hlt (by omega)
      simp [idxf_l0, g0, g1, g7, g8, hlt]
      refine hf l[i] (List.getElem_mem hlt) _ _ gb gk ?_
      rintro S'' q1 q2 q3 q4
      cases hp : p l[i] with
      | true =>
        simp [q1, g0, g1, g7, g8]
        refine hk i _ ⟨fun _ => List.any_eq_true.2 ⟨_, List.getElem_mem hlt, hp⟩, fun _ => by omega⟩ rfl (q2.trans gb) (q3.trans gk) (by simp at q4 ⊢; omega)
      | false =>
        simp [q1, g0, g1, g7, g8, hw, hlt]
        refine ⟨q2.trans gb, q3.trans gk, by simp at q4; omega, fun x hx => ?_⟩
        rw [List.take_succ_eq_append_getElem hlt] at hx
        rcases List.mem_append.1 hx with q | q
        · exact gp x q
        · rw [List.mem_singleton.1 q]; exact hp
    · have e1 : i = l.length := by omega
      subst e1
      rw [List.take_length] at gp
      simp [idxf_l0, g0, g1, g7, g8]
      refine hk (-1) _ ⟨fun h => by omega, fun h => ?_⟩ rfl gb gk (by simp; omega)
      obtain ⟨x, h1, h2⟩ := List.any_eq_true.1 h
      rw [gp x h1] at h2; cases h2
theorem containsF_v (l : List Int) (hl : l.length < 1000000) (fv : AV) (p : Int → Bool) {S : St} {k : AV → St → Prop} {u : Dep k}
    (hf : ∀ x ∈ l, ∀ (S' : St) (κ : AV → St → Prop), S'.blk = S.blk → S'.tok = S.tok → (∀ S'', S''.t = S'.t → S''.blk = S'.blk → S''.tok = S'.tok → S'.clk ≤ S''.clk → κ (.bool (p x)) S'') → CallG Tryz.prog fv [iv x] S' κ .mk)
    (hk : ∀ (S' : St), S'.t = S.t → S'.blk = S.blk → S'.tok = S.tok → S.clk ≤ S'.clk → k (.bool (l.any p)) S') :
    CallG Tryz.prog (.fn 81 []) [ints l, fv] S k u := by
  refine callV contf_get (by simp) (by simp) ?_
  unfold contf_c
  simp [ints]
  refine indexF_v l hl fv p (fun x hx S' κ b1 b2 b3 => hf x hx S' κ b1 b2 b3) ?_
  intro i S' hi q1 q2 q3 q4
  simp [q1]
  have e : l.any p = decide (i ≥ 0) := by
    by_cases h : 0 ≤ i
    · rw [hi.1 h]; simp; exact h
    · have : l.any p = false := by
        cases hq : l.any p with
        | false => rfl
        | true => exact absurd (hi.2 hq) h
      rw [this]; simp; omega
  rw [e] at hk
  exact hk _ rfl q2 q3 (by simp at q4 ⊢; omega)
def firstV (p : Prg) : List Int := p.boot.map Nt.hd ++ (p.as.filter fun a => a.armed).map Actr.timer
def timersV (p : Prg) : List Int := (p.as.filter fun a => decide (0 ≤ a.timer)).map Actr.timer
def armAt (arms : List Bool) (x : Int) : Bool := (arms[x.toNat]?).getD false
def live2 (p : Prg) (snd : List (List Int)) (arms : List Bool) : List Int := if (closedV snd (firstV p)).any (armAt arms) = true then closedV snd (firstV p) ++ timersV p else closedV snd (firstV p)
def liveV (p : Prg) (snd : List (List Int)) (arms : List Bool) : List Int := closedV snd (live2 p snd arms)
theorem closedV_in (snd : List (List Int)) (l : List Int) : InN snd.length (closedV snd l) := by
  intro x hx
  simp only [closedV, List.mem_filter, List.mem_map, List.mem_range] at hx
  obtain ⟨⟨n, h1, rfl⟩, _⟩ := hx
  omega
theorem closedV_len (snd : List (List Int)) (l : List Int) : (closedV snd l).length ≤ snd.length := by
  unfold closedV
  refine Nat.le_trans (List.length_filter_le _ _) (by simp)
theorem AccIs.at {S S' : St} {v : AV} {nm sz : Nat} {ty : TypeId} {xs : List AV} (h : AccIs S v nm sz ty xs) (hk : S'.tok nm = S.tok nm) : AccIs S' v nm sz ty xs := by
  rcases h with q | ⟨st, q1, q2⟩
  · exact .inl q
  · exact .inr ⟨st, q1, by rw [hk]; exact q2⟩
theorem filter_take_succ {α : Type} (l : List α) (q : α → Bool) (i : Nat) (h : i < l.length) : (l.take (i + 1)).filter q = (l.take i).filter q ++ if q l[i] = true then [l[i]] else [] := by
  rw [List.take_succ_eq_append_getElem h, List.filter_append]
  simp only [List.filter_cons, List.filter_nil]
theorem AccIs.elemR {S : St} {v : AV} {nm sz : Nat} {ty : TypeId} {xs : List AV} (h : AccIs S v nm sz ty xs) : elemR (dco (fun _ => none) 1) v (.lst sz xs) := by
  rcases h with ⟨rfl, rfl⟩ | ⟨st, rfl, _⟩ <;> simp [Go.Gv.elemR, dco, coL, co1]
theorem list2 {x y x' y' : AV} {Q : AV → AV → Prop} (h1 : x = x' ∨ Q x x') (h2 : y = y' ∨ Q y y') : ∀ (j : Nat) (a b : AV), [x, y][j]? = some a → [x', y'][j]? = some b → a = b ∨ Q a b := by
  intro j a b ha hb
  match j with
  | 0 => simp at ha hb; subst ha hb; exact h1
  | 1 => simp at ha hb; subst ha hb; exact h2
  | j + 2 => simp at ha
def first2 (p : Prg) (i : Nat) : List Int := p.boot.map Nt.hd ++ ((p.as.take i).filter fun a => a.armed).map Actr.timer
theorem first2_zero (p : Prg) : first2 p 0 = p.boot.map Nt.hd := by simp [first2]
theorem first2_end (p : Prg) : first2 p p.as.length = firstV p := by simp [first2, firstV]
theorem first2_succ (p : Prg) (i : Nat) (h : i < p.as.length) : first2 p (i + 1) = first2 p i ++ if p.as[i].armed = true then [p.as[i].timer] else [] := by
  rw [first2, filter_take_succ p.as (fun a => a.armed) i h, first2, List.append_assoc]
  cases q : p.as[i].armed <;> simp
theorem first2_len (p : Prg) (i : Nat) : (first2 p i).length ≤ p.boot.length + i := by
  have : ((p.as.take i).filter fun a => a.armed).length ≤ i := Nat.le_trans (List.length_filter_le _ _) (by simp; omega)
  simp [first2]; omega
def tim2 (p : Prg) (l : List Int) (i : Nat) : List Int := l ++ ((p.as.take i).filter fun a => decide (0 ≤ a.timer)).map Actr.timer
theorem tim2_zero (p : Prg) (l : List Int) : tim2 p l 0 = l := by simp [tim2]
theorem tim2_end (p : Prg) (l : List Int) : tim2 p l p.as.length = l ++ timersV p := by simp [tim2, timersV]
theorem tim2_succ (p : Prg) (l : List Int) (i : Nat) (h : i < p.as.length) : tim2 p l (i + 1) = tim2 p l i ++ if 0 ≤ p.as[i].timer then [p.as[i].timer] else [] := by
  rw [tim2, filter_take_succ p.as (fun a => decide (0 ≤ a.timer)) i h, tim2, List.append_assoc]
  by_cases q : 0 ≤ p.as[i].timer <;> simp [q]
theorem tim2_len (p : Prg) (l : List Int) (i : Nat) : (tim2 p l i).length ≤ l.length + i := by
  have : ((p.as.take i).filter fun a => decide (0 ≤ a.timer)).length ≤ i := Nat.le_trans (List.length_filter_le _ _) (by simp; omega)
  simp [tim2]; omega
theorem first_in {p : Prg} (hp : checkV p = 0) : InN p.hs.length (firstV p) := by
  obtain ⟨c1, c2, c3, c4, c5, c6, c7, c8, c9⟩ := checkV_zero hp
  intro x hx
  rcases List.mem_append.1 hx with q | q
  · obtain ⟨n, h1, rfl⟩ := List.mem_map.1 q
    have := c9 n h1
    unfold noteV at this
    split at this
    · omega
    · omega
  · obtain ⟨a, h1, rfl⟩ := List.mem_map.1 q
    obtain ⟨h2, h3⟩ := List.mem_filter.1 h1
    have := c8 a h2
    unfold actorV at this
    split at this
    · omega
    · split at this
      · omega
      · split at this
        · omega
        · split at this
          · omega
          · simp only [h3, true_and] at *
            omega
theorem timers_in {p : Prg} (hp : checkV p = 0) : InN p.hs.length (timersV p) := by
  obtain ⟨c1, c2, c3, c4, c5, c6, c7, c8, c9⟩ := checkV_zero hp
  intro x hx
  obtain ⟨a, h1, rfl⟩ := List.mem_map.1 hx
  obtain ⟨h2, h3⟩ := List.mem_filter.1 h1
  have := c8 a h2
  unfold actorV at this
  have h3 : 0 ≤ a.timer := by simpa using h3
  split at this
  · omega
  · split at this
    · omega
    · split at this
      · omega
      · omega
theorem live2_in {p : Prg} (hp : checkV p = 0) {snd : List (List Int)} (hn : p.hs.length = snd.length) (arms : List Bool) : InN snd.length (live2 p snd arms) := by
  unfold live2
  split
  · intro x hx
    rcases List.mem_append.1 hx with q | q
    · exact closedV_in snd _ x q
    · rw [← hn]; exact timers_in hp x q
  · exact closedV_in snd _
theorem mea_nil (snd : List (List Int)) (l : List Int) : mea snd [] l = l.length + snd.flatten.length := by rw [mea, unm_nil]
-- What holds all the way: the closure's cell, the plan, all else as it was.
structure AlS (nm st : Nat) (P : List AV) (T S : St) : Prop where
  x : ∃ s1, S.t 1 = .ptr 131501 s1 1 0 0 ∧ S.blk 131501 = some ⟨s1, 1, [.ptr nm st 12 0 0]⟩
  pl : S.blk nm = some ⟨st, 12, [.agg P]⟩
  fr : Fh LR T S
theorem alive_v (nm st : Nat) (hnm : LR nm = false) (p : Prg) (hp : checkV p = 0) (dn lk sm md : Int) (v8 v9 v10 v11 : AV) (snd : List (List Int)) (arms : List Bool) (hv8 : LstV v8 (snd.map ints)) (hv10 : LstV v10 (arms.map AV.bool))
    (hn : p.hs.length = snd.length) (ha : arms.length = snd.length) (hsnd : ∀ s ∈ snd, InN snd.length s) (hsl : snd.flatten.length ≤ 10000)
    {T : St} {κ : AV → St → Prop} {u : Dep κ} (hbT : T.blk nm = some ⟨st, 12, [.agg (planC p dn lk sm md v8 v9 v10 v11)]⟩)
    (hκ : ∀ r S, AccIs S r 132049 1 3 ((liveV p snd arms).map iv) → S.blk nm = some ⟨st, 12, [.agg (planC p dn lk sm md v8 v9 v10 v11)]⟩ → Fh LR T S → S.t = T.t → κ r S) :
    CallG Tryz.prog (.fn 64 []) [.ptr nm st 12 0 0] T κ u := by
  obtain ⟨c1, c2, c3, c4, c5, c6, c7, c8, c9⟩ := checkV_zero hp
  have n1 : nm ≠ 131501 := fun e => by rw [e] at hnm; cases hnm
  have n5 : nm ≠ 131505 := fun e => by rw [e] at hnm; cases hnm
  have n7 : nm ≠ 131507 := fun e => by rw [e] at hnm; cases hnm
  have n10 : nm ≠ 131510 := fun e => by rw [e] at hnm; cases hnm
  have n9 : nm ≠ 132009 := fun e => by rw [e] at hnm; cases hnm
  refine callV alive_get (by simp) (by simp) ?_
  unfold alive_c
  simp [hbT, n1, planC]
  refine loopN (fun i S => S.t 15 = .lst 3 (p.boot.map Nt.av) ∧ S.t 16 = iv p.boot.length ∧ S.t 17 = iv i ∧ AccIs S (S.t 3) 131525 1 3 (((p.boot.take i).map Nt.hd).map iv) ∧ AlS nm st (planC p dn lk sm md v8 v9 v10 v11) T S) p.boot.length ?_ ?_
  · refine ⟨by simp, by simp, by simp, by simp [AccIs], ⟨⟨T.clk, by simp, by simp⟩, by simp [n1, hbT], Fh.here (fun n hn => by repeat rw [upd_out hn rfl]) (fun n hn => rfl) (by omega)⟩⟩
  · rintro i S hi ⟨g15, g16, g17, hv3, ⟨⟨s1, x1, x2⟩, pl, fr⟩⟩
    by_cases hlt : i < p.boot.length
    · have hw := wrap_succ i _ hlt (by omega)
      have htk : (p.boot.take (i + 1)).map Nt.hd = (p.boot.take i).map Nt.hd ++ [p.boot[i].hd] := by rw [List.take_succ_eq_append_getElem hlt, List.map_append]; rfl
      have hlen : ((p.boot.take i).map Nt.hd).length ≤ i := by simp; omega
      rw [htk]
      generalize (p.boot.take i).map Nt.hd = xs at *
      have hb8 : (xs.length + 1) * 8 ≤ 140737488355328 := by omega
      rcases hv3 with ⟨q1, q2⟩ | ⟨s3, q1, q2⟩
      · have hx0 : xs = [] := by simpa using q2
        subst hx0
        simp [alive_l0, g15, g16, g17, hlt, hw, q1]
        refine ⟨by simp [AccIs], ⟨⟨s1, by simp [x1], by simp [x2]⟩, by simp [n5, pl], fr.step (fun n hn => by repeat rw [upd_out hn rfl]) (fun n hn => by repeat rw [upd_out hn rfl]) (by omega)⟩⟩
      · simp [alive_l0, g15, g16, g17, hlt, hw, q1, q2, hb8]
        refine ⟨by simp [AccIs], ⟨⟨s1, by simp [x1], by simp [x2]⟩, by simp [n5, pl], fr.step (fun n hn => by repeat rw [upd_out hn rfl]) (fun n hn => by repeat rw [upd_out hn rfl]) (by omega)⟩⟩
    · have e1 : i = p.boot.length := by omega
      subst e1
      rw [List.take_length] at hv3
      simp [alive_l0, g15, g16, g17, x1, x2, pl, planC]
      refine loopN (fun i S => S.t 31 = .lst 4 (p.as.map Actr.av) ∧ S.t 32 = iv p.as.length ∧ S.t 33 = iv i ∧ AccIs S (S.t 3) 131525 1 3 ((first2 p i).map iv) ∧ AlS nm st (planC p dn lk sm md v8 v9 v10 v11) T S) p.as.length ?_ ?_
      · refine ⟨by simp, by simp, by simp, by rw [first2_zero]; simpa [AccIs] using hv3, ⟨⟨s1, by simp [x1], by simp [x2]⟩, by simp [pl], fr.step (fun n hn => rfl) (fun n hn => rfl) (by omega)⟩⟩
      · clear g15 g16 g17 hv3 x1 x2 pl fr hi s1 hlt S
        rintro i S hi ⟨g31, g32, g33, hv3, ⟨⟨s1, x1, x2⟩, pl, fr⟩⟩
        by_cases hlt : i < p.as.length
        · have hw := wrap_succ i _ hlt (by omega)
          have hlen := first2_len p i
          rw [first2_succ p i hlt]
          generalize first2 p i = zs at *
          have hb8 : (zs.length + 1) * 8 ≤ 140737488355328 := by omega
          cases har : p.as[i].armed with
          | false =>
            simp [alive_l1, g31, g32, g33, hlt, hw, har]
            refine ⟨by simpa [AccIs] using hv3, ⟨⟨s1, by simp [x1], by simp [x2]⟩, by simp [n7, pl], fr.step (fun n hn => by repeat rw [upd_out hn rfl]) (fun n hn => rfl) (by omega)⟩⟩
          | true =>
            rcases hv3 with ⟨q1, q2⟩ | ⟨s3, q1, q2⟩
            · have hx0 : zs = [] := by simpa using q2
              subst hx0
              simp [alive_l1, g31, g32, g33, hlt, hw, q1, har]
              refine ⟨by simp [AccIs], ⟨⟨s1, by simp [x1], by simp [x2]⟩, by simp [n7, pl], fr.step (fun n hn => by repeat rw [upd_out hn rfl]) (fun n hn => by repeat rw [upd_out hn rfl]) (by omega)⟩⟩
            · simp [alive_l1, g31, g32, g33, hlt, hw, q1, q2, hb8, har]
              refine ⟨by simp [AccIs], ⟨⟨s1, by simp [x1], by simp [x2]⟩, by simp [n7, pl], fr.step (fun n hn => by repeat rw [upd_out hn rfl]) (fun n hn => by repeat rw [upd_out hn rfl]) (by omega)⟩⟩
        · have e1 : i = p.as.length := by omega
          subst e1
          rw [first2_end] at hv3
          simp [alive_l1, g31, g32, g33, x1, x2]
          refine call_coarse 1 (vals' := [.ptr nm st 12 0 0, ints (firstV p)]) rfl (list2 (.inl rfl) (.inr hv3.elemR)) ?_
          have hfl : (firstV p).length ≤ 24 := by have := first2_len p p.as.length; rw [first2_end] at this; omega
          refine closed_v nm st (planC p dn lk sm md v8 v9 v10 v11) (p.hs.map Hnd.av) v8 snd n9 (by simp [planC]) (by simp [planC]) hv8 (by simpa using hn) (by simp; omega) hsnd (firstV p) (by rw [← hn]; exact first_in hp) (by rw [mea_nil]; omega) (by exact pl) ?_
          rintro r S1 hr hF ht hc
          have f1 := hF.fh hc (by decide) (by decide)
          have pl1 : S1.blk nm = some ⟨st, 12, [.agg (planC p dn lk sm md v8 v9 v10 v11)]⟩ := by rw [f1.b nm hnm]; exact pl
          have x21 : S1.blk 131501 = some ⟨s1, 1, [.ptr nm st 12 0 0]⟩ := by rw [hF.b _ (by decide)]; exact x2
          have fr1 : Fh LR T S1 := (fr.step (t := upd (upd (upd S.t 34 (AV.bool false)) 45 (AV.ptr nm st 12 0 0)) 46 (S.t 3)) (fun n hn => rfl) (fun n hn => rfl) (c := S.clk + 1 + 4) (by omega)).trans f1
          simp [ht, x1]
          refine call_coarse 1 (vals' := [ints (closedV snd (firstV p)), .fn 82 [.ptr 131501 s1 1 0 0]]) rfl (list2 (.inr hr.elemR) (.inl rfl)) ?_
          have hcl := closedV_len snd (firstV p)
          have hci := closedV_in snd (firstV p)
          refine containsF_v _ (by omega) _ (armAt arms) ?_ ?_
          · intro x hx S2 κ2 b1 b2 b3
            have b1 : S2.blk = S1.blk := b1
            refine alive1_v nm st s1 n1 p dn lk sm md v8 v9 v10 v11 arms hv10 x (by have := hci x hx; omega) (by rw [b1]; exact x21) (by rw [b1]; exact pl1) ?_
            intro S3 d1 d2 d3 d4
            exact b3 S3 d1 d2 d3 d4
          · rintro S2 d1 d2 d3 d4
            have pl2 : S2.blk nm = some ⟨st, 12, [.agg (planC p dn lk sm md v8 v9 v10 v11)]⟩ := by rw [d2]; exact pl1
            have x22 : S2.blk 131501 = some ⟨s1, 1, [.ptr nm st 12 0 0]⟩ := by rw [d2]; exact x21
            have hr2 : AccIs S2 r 132049 1 3 ((closedV snd (firstV p)).map iv) := hr.at (by rw [d3])
            have fr2 : Fh LR T S2 := ⟨fun n h => by rw [d2]; exact fr1.b n h, fun n h => by rw [d3]; exact fr1.k n h, by have := fr1.c; simp at d4; omega⟩
            simp [d1, ht, x1]
            refine condG_split (fun hany => ?_) (fun hany => ?_)
            · have e2 : live2 p snd arms = closedV snd (firstV p) ++ timersV p := by unfold live2; rw [if_pos hany]
              simp [d1, ht, x1, x22, pl2, planC]
              refine loopN (fun i S => S.t 55 = .lst 4 (p.as.map Actr.av) ∧ S.t 56 = iv p.as.length ∧ S.t 57 = iv i ∧ AccIs S (S.t 8) 132049 1 3 ((tim2 p (closedV snd (firstV p)) i).map iv) ∧ AlS nm st (planC p dn lk sm md v8 v9 v10 v11) T S) p.as.length ?_ ?_
              · refine ⟨by simp, by simp, by simp, by rw [tim2_zero]; simpa [AccIs] using hr2, ⟨⟨s1, by simp [x1], by simp [x22]⟩, by simp [pl2], fr2.step (fun n hn => rfl) (fun n hn => rfl) (by omega)⟩⟩
              · clear g31 g32 g33 hv3 x1 x2 pl fr hi hlt hr hF ht hc f1 pl1 x21 fr1 d1 d2 d3 d4 pl2 x22 hr2 fr2 s1 S2 S1 S
                rintro i S hi ⟨g55, g56, g57, hv8', ⟨⟨s1, x1, x2⟩, pl, fr⟩⟩
                by_cases hlt : i < p.as.length
                · have hw := wrap_succ i _ hlt (by omega)
                  have hlen := tim2_len p (closedV snd (firstV p)) i
                  rw [tim2_succ p _ i hlt]
                  generalize tim2 p (closedV snd (firstV p)) i = zs at *
                  have hb8 : (zs.length + 1) * 8 ≤ 140737488355328 := by omega
                  by_cases har : 0 ≤ p.as[i].timer
                  · rcases hv8' with ⟨q1, q2⟩ | ⟨s3, q1, q2⟩
                    · have hx0 : zs = [] := by simpa using q2
                      subst hx0
                      simp [alive_l2, g55, g56, g57, hlt, hw, q1, har]
                      refine ⟨by simp [AccIs], ⟨⟨s1, by simp [x1], by simp [x2]⟩, by simp [n10, pl], fr.step (fun n hn => by repeat rw [upd_out hn rfl]) (fun n hn => by repeat rw [upd_out hn rfl]) (by omega)⟩⟩
                    · simp [alive_l2, g55, g56, g57, hlt, hw, q1, q2, hb8, har]
                      refine ⟨by simp [AccIs], ⟨⟨s1, by simp [x1], by simp [x2]⟩, by simp [n10, pl], fr.step (fun n hn => by repeat rw [upd_out hn rfl]) (fun n hn => by repeat rw [upd_out hn rfl]) (by omega)⟩⟩
                  · simp [alive_l2, g55, g56, g57, hlt, hw, har]
                    refine ⟨by simpa [AccIs] using hv8', ⟨⟨s1, by simp [x1], by simp [x2]⟩, by simp [n10, pl], fr.step (fun n hn => by repeat rw [upd_out hn rfl]) (fun n hn => rfl) (by omega)⟩⟩
                · have e1 : i = p.as.length := by omega
                  subst e1
                  rw [tim2_end, ← e2] at hv8'
                  simp [alive_l2, g55, g56, g57, x1, x2]
                  refine call_coarse 1 (vals' := [.ptr nm st 12 0 0, ints (live2 p snd arms)]) rfl (list2 (.inl rfl) (.inr hv8'.elemR)) ?_
                  have hll : (live2 p snd arms).length ≤ 1000 := by
                    have := tim2_len p (closedV snd (firstV p)) p.as.length
                    rw [tim2_end, ← e2] at this; omega
                  refine closed_v nm st (planC p dn lk sm md v8 v9 v10 v11) (p.hs.map Hnd.av) v8 snd n9 (by simp [planC]) (by simp [planC]) hv8 (by simpa using hn) (by simp; omega) hsnd _ (live2_in hp hn arms) (by rw [mea_nil]; omega) (by exact pl) ?_
                  rintro r S1 hr hF ht hc
                  have f1 := hF.fh hc (by decide) (by decide)
                  simp [ht]
                  refine hκ r _ (by simpa [AccIs, liveV] using hr) (by rw [← pl]; exact f1.b nm hnm) ?_ rfl
                  exact ((fr.step (t := S.t) (fun n hn => rfl) (fun n hn => rfl) (c := S.clk + 1 + 4) (by omega)).trans ⟨f1.b, f1.k, by simpa using hc⟩).step (fun n hn => rfl) (fun n hn => rfl) (by omega)
            · have e2 : live2 p snd arms = closedV snd (firstV p) := by unfold live2; rw [if_neg (by rw [hany]; simp)]
              simp [d1, ht, x1, x22]
              refine call_coarse 1 (vals' := [.ptr nm st 12 0 0, ints (live2 p snd arms)]) rfl (list2 (.inl rfl) (.inr (by rw [e2]; exact hr2.elemR))) ?_
              refine closed_v nm st (planC p dn lk sm md v8 v9 v10 v11) (p.hs.map Hnd.av) v8 snd n9 (by simp [planC]) (by simp [planC]) hv8 (by simpa using hn) (by simp; omega) hsnd _ (live2_in hp hn arms) (by rw [mea_nil, e2]; omega) (by exact pl2) ?_
              rintro r' S1' hr' hF' ht' hc'
              have f1' := hF'.fh hc' (by decide) (by decide)
              simp [ht']
              refine hκ r' _ (by simpa [AccIs, liveV] using hr') (by rw [← pl2]; exact f1'.b nm hnm) ?_ rfl
              exact ((fr2.step (t := S2.t) (fun n hn => rfl) (fun n hn => rfl) (c := S2.clk + 4) (by omega)).trans ⟨f1'.b, f1'.k, by simpa using hc'⟩).step (fun n hn => rfl) (fun n hn => rfl) (by omega)

end Go.Gv

/- What the reference's Depths and CheckFlow answer: the depths that rdepthsV tells. The code's instructions may be looked at (codeOk). -/
set_option linter.unusedVariables false
set_option linter.unusedSimpArgs false
namespace Go.Gv
open Go.Proofs

def rdep_r0 : List AI := [⟨(some 2), none, (.op (.box 38002 4 (.t 0)))⟩, ⟨(some 4), none, (.op (.mv (.c .nils)))⟩, ⟨(some 5), none, (.op (.mv (.c (.int .i64 0))))⟩, ⟨(some 6), none, (.op (.mv (.c (.int .i64 0))))⟩]
def rdep_r1 : List AI := [⟨(some 19), none, (.op (.mv (.t 1)))⟩, ⟨(some 20), none, (.op (.ibin .lss (.t 19) (.c (.int .i64 0))))⟩, ⟨(some 21), none, (.op (.mv (.t 20)))⟩, ⟨(some 22), (some (21, false)), (.op (.mv (.t 1)))⟩, ⟨(some 23), (some (21, false)), (.op (.fld 0 (.t 2)))⟩, ⟨(some 24), (some (21, false)), (.op (.load none (.t 23)))⟩, ⟨(some 25), (some (21, false)), (.op (.len (.t 24)))⟩, ⟨(some 26), (some (21, false)), (.op (.ibin .geq (.t 22) (.t 25)))⟩, ⟨(some 27), none, (.op (.pick (.t 21) (.c (.bool true)) (.t 26)))⟩]
def rdep_r2 : List AI := [⟨(some 4), none, (.op (.mv (.c .nils)))⟩, ⟨(some 5), none, (.op (.mv (.c (.int .i64 (-1)))))⟩, ⟨(some 6), none, (.op (.mv (.c (.int .i64 7))))⟩]
def rdep_r3 : List AI := [⟨(some 28), none, (.op (.fld 0 (.t 2)))⟩, ⟨(some 29), none, (.op (.load none (.t 28)))⟩, ⟨(some 30), none, (.op (.mv (.t 1)))⟩, ⟨(some 31), none, (.op (.idx 2 (.t 29) (.t 30)))⟩, ⟨(some 32), none, (.op (.fld 1 (.t 31)))⟩, ⟨(some 33), none, (.op (.load none (.t 32)))⟩, ⟨(some 7), none, (.op (.mv (.t 33)))⟩]
def rdep_r4 : List AI := [⟨(some 34), none, (.op (.mv (.t 7)))⟩, ⟨(some 35), none, (.op (.len (.t 34)))⟩, ⟨(some 8), none, (.op (.mv (.t 35)))⟩]
def rdep_r5 : List AI := [⟨(some 36), none, (.op (.mv (.t 8)))⟩, ⟨(some 37), none, (.op (.ibin .add (.t 36) (.c (.int .i64 1))))⟩, ⟨(some 38), none, (.op (.msl 38038 1 8 (.int .i64 0) (.t 37)))⟩, ⟨(some 9), none, (.op (.mv (.t 38)))⟩]
def rdep_r6 : List AI := [⟨(some 10), none, (.op (.mv (.c (.int .i64 0))))⟩]
def rdep_r7 : List AI := [⟨(some 39), none, (.op (.mv (.t 10)))⟩, ⟨(some 40), none, (.op (.mv (.t 8)))⟩, ⟨(some 41), none, (.op (.ibin .leq (.t 39) (.t 40)))⟩]
def rdep_r8 : List AI := [⟨(some 44), none, (.op (.mv (.t 9)))⟩, ⟨(some 45), none, (.op (.mv (.t 10)))⟩, ⟨(some 46), none, (.op (.idx 1 (.t 44) (.t 45)))⟩, ⟨none, none, (.op (.store 1 (.t 46) (.c (.int .i64 (-1)))))⟩]
def rdep_r9 : List AI := [⟨(some 42), none, (.op (.mv (.t 10)))⟩, ⟨(some 43), none, (.op (.ibin .add (.t 42) (.c (.int .i64 1))))⟩, ⟨(some 10), none, (.op (.mv (.t 43)))⟩]
def rdep_l0 : AC := (.seq (.seq (.reg rdep_r7) (.cond (.t 41) .skip (.exit 0))) (.seq (.block 1 (.reg rdep_r8)) (.reg rdep_r9)))
def rdep_r10 : List AI := [⟨(some 47), none, (.op (.mv (.t 9)))⟩, ⟨(some 48), none, (.op (.idx 1 (.t 47) (.c (.int .i64 0))))⟩, ⟨none, none, (.op (.store 1 (.t 48) (.c (.int .i64 0))))⟩]
def rdep_r11 : List AI := [⟨(some 11), none, (.op (.mv (.c (.int .i64 0))))⟩]
def rdep_r12 : List AI := [⟨(some 12), none, (.op (.mv (.c (.bool true))))⟩]
def rdep_r13 : List AI := [⟨(some 49), none, (.op (.mv (.t 12)))⟩]
def rdep_r14 : List AI := [⟨(some 12), none, (.op (.mv (.c (.bool false))))⟩]
def rdep_r15 : List AI := [⟨(some 13), none, (.op (.mv (.c (.int .i64 0))))⟩]
def rdep_r16 : List AI := [⟨(some 50), none, (.op (.mv (.t 13)))⟩, ⟨(some 51), none, (.op (.mv (.t 8)))⟩, ⟨(some 52), none, (.op (.ibin .lss (.t 50) (.t 51)))⟩]
def rdep_r17 : List AI := [⟨(some 55), none, (.op (.mv (.t 9)))⟩, ⟨(some 56), none, (.op (.mv (.t 13)))⟩, ⟨(some 57), none, (.op (.idx 1 (.t 55) (.t 56)))⟩, ⟨(some 58), none, (.op (.load none (.t 57)))⟩, ⟨(some 59), none, (.op (.ibin .lss (.t 58) (.c (.int .i64 0))))⟩]
def rdep_r18 : List AI := [⟨(some 60), none, (.op (.mv (.t 7)))⟩, ⟨(some 61), none, (.op (.mv (.t 13)))⟩, ⟨(some 62), none, (.op (.idx 2 (.t 60) (.t 61)))⟩, ⟨(some 63), none, (.op (.load (some 2) (.t 62)))⟩, ⟨(some 14), none, (.op (.new 38014 2 (.agg [(.int .i64 0), (.int .i64 0)])))⟩, ⟨none, none, (.op (.store 2 (.t 14) (.t 63)))⟩]
def rdep_r19 : List AI := [⟨(some 64), none, (.op (.fld 0 (.t 14)))⟩, ⟨(some 65), none, (.op (.load none (.t 64)))⟩, ⟨(some 66), none, (.call (.c (.fn 39 [])) [(.t 65)])⟩, ⟨(some 15), none, (.op (.mv (.t 66)))⟩]
def rdep_r20 : List AI := [⟨(some 67), none, (.op (.fld 0 (.t 14)))⟩, ⟨(some 68), none, (.op (.load none (.t 67)))⟩, ⟨(some 69), none, (.op (.ibin .eql (.t 68) (.c (.int .i64 22))))⟩]
def rdep_r21 : List AI := [⟨(some 70), none, (.op (.mv (.t 15)))⟩, ⟨(some 71), none, (.op (.fld 0 (.t 2)))⟩, ⟨(some 72), none, (.op (.load none (.t 71)))⟩, ⟨(some 73), none, (.op (.fld 1 (.t 14)))⟩, ⟨(some 74), none, (.op (.load none (.t 73)))⟩, ⟨(some 75), none, (.op (.idx 2 (.t 72) (.t 74)))⟩, ⟨(some 76), none, (.op (.fld 0 (.t 75)))⟩, ⟨(some 77), none, (.op (.load none (.t 76)))⟩, ⟨(some 78), none, (.op (.ibin .add (.t 70) (.t 77)))⟩, ⟨(some 15), none, (.op (.mv (.t 78)))⟩]
def rdep_r22 : List AI := [⟨(some 79), none, (.op (.mv (.t 9)))⟩, ⟨(some 80), none, (.op (.mv (.t 13)))⟩, ⟨(some 81), none, (.op (.idx 1 (.t 79) (.t 80)))⟩, ⟨(some 82), none, (.op (.load none (.t 81)))⟩, ⟨(some 83), none, (.op (.mv (.t 15)))⟩, ⟨(some 84), none, (.op (.ibin .sub (.t 82) (.t 83)))⟩, ⟨(some 85), none, (.op (.fld 0 (.t 14)))⟩, ⟨(some 86), none, (.op (.load none (.t 85)))⟩, ⟨(some 87), none, (.call (.c (.fn 40 [])) [(.t 86)])⟩, ⟨(some 88), none, (.op (.ibin .add (.t 84) (.t 87)))⟩, ⟨(some 16), none, (.op (.mv (.t 88)))⟩]
def rdep_p22 : List (List Nat) := [[], [], [0, 1], [2, 0, 1], [], [3, 4, 2, 0, 1], [], [6], [7, 6], [5, 8, 3, 4, 2, 0, 1, 7, 6], [9, 8, 0, 1, 2, 3, 4, 5, 6, 7]]
def rdep_r23 : List AI := [⟨(some 89), none, (.op (.mv (.t 9)))⟩, ⟨(some 90), none, (.op (.mv (.t 13)))⟩, ⟨(some 91), none, (.op (.idx 1 (.t 89) (.t 90)))⟩, ⟨(some 92), none, (.op (.load none (.t 91)))⟩, ⟨(some 93), none, (.op (.mv (.t 15)))⟩, ⟨(some 94), none, (.op (.ibin .lss (.t 92) (.t 93)))⟩, ⟨(some 95), none, (.op (.mv (.t 94)))⟩, ⟨(some 96), (some (95, false)), (.op (.mv (.t 16)))⟩, ⟨(some 97), (some (95, false)), (.op (.ibin .gtr (.t 96) (.c (.int .i64 8))))⟩, ⟨(some 98), none, (.op (.pick (.t 95) (.c (.bool true)) (.t 97)))⟩]
def rdep_r24 : List AI := [⟨(some 4), none, (.op (.mv (.c .nils)))⟩, ⟨(some 5), none, (.op (.mv (.c (.int .i64 (-1)))))⟩, ⟨(some 6), none, (.op (.mv (.c (.int .i64 5))))⟩]
def rdep_r25 : List AI := [⟨(some 99), none, (.op (.mv (.t 11)))⟩, ⟨(some 100), none, (.op (.mv (.t 9)))⟩, ⟨(some 101), none, (.op (.mv (.t 13)))⟩, ⟨(some 102), none, (.op (.idx 1 (.t 100) (.t 101)))⟩, ⟨(some 103), none, (.op (.load none (.t 102)))⟩, ⟨(some 104), none, (.op (.mv (.t 16)))⟩, ⟨(some 105), none, (.op (.mm true (.t 99) [(.t 103), (.t 104)]))⟩, ⟨(some 11), none, (.op (.mv (.t 105)))⟩]
def rdep_r26 : List AI := [⟨(some 17), none, (.op (.mv (.c .nils)))⟩]
def rdep_r27 : List AI := [⟨(some 106), none, (.op (.fld 0 (.t 14)))⟩, ⟨(some 107), none, (.op (.load none (.t 106)))⟩]
def rdep_r28 : List AI := [⟨(some 112), none, (.op (.ibin .eql (.t 107) (.c (.int .i64 20))))⟩, ⟨(some 111), none, (.op (.mv (.t 112)))⟩]
def rdep_r29 : List AI := [⟨(some 113), none, (.op (.fld 1 (.t 14)))⟩, ⟨(some 114), none, (.op (.load none (.t 113)))⟩, ⟨(some 115), none, (.op (.bsl 38115 1 3 1 (.int .i64 0) [(0, (.t 114))]))⟩, ⟨(some 17), none, (.op (.mv (.t 115)))⟩]
def rdep_r30 : List AI := [⟨(some 117), none, (.op (.ibin .eql (.t 107) (.c (.int .i64 21))))⟩, ⟨(some 116), none, (.op (.mv (.t 117)))⟩]
def rdep_r31 : List AI := [⟨(some 118), none, (.op (.fld 1 (.t 14)))⟩, ⟨(some 119), none, (.op (.load none (.t 118)))⟩, ⟨(some 120), none, (.op (.mv (.t 13)))⟩, ⟨(some 121), none, (.op (.ibin .add (.t 120) (.c (.int .i64 1))))⟩, ⟨(some 122), none, (.op (.bsl 38122 1 3 2 (.int .i64 0) [(0, (.t 119)), (1, (.t 121))]))⟩, ⟨(some 17), none, (.op (.mv (.t 122)))⟩]
def rdep_r32 : List AI := [⟨(some 124), none, (.op (.ibin .eql (.t 107) (.c (.int .i64 25))))⟩, ⟨(some 123), none, (.op (.mv (.t 124)))⟩]
def rdep_r33 : List AI := [⟨(some 17), none, (.op (.mv (.c .nils)))⟩]
def rdep_r34 : List AI := [⟨(some 108), none, (.op (.mv (.t 13)))⟩, ⟨(some 109), none, (.op (.ibin .add (.t 108) (.c (.int .i64 1))))⟩, ⟨(some 110), none, (.op (.bsl 38110 1 3 1 (.int .i64 0) [(0, (.t 109))]))⟩, ⟨(some 17), none, (.op (.mv (.t 110)))⟩]
def rdep_r35 : List AI := [⟨(some 18), none, (.op (.mv (.c (.int .i64 0))))⟩]
def rdep_r36 : List AI := [⟨(some 125), none, (.op (.mv (.t 18)))⟩, ⟨(some 126), none, (.op (.mv (.t 17)))⟩, ⟨(some 127), none, (.op (.len (.t 126)))⟩, ⟨(some 128), none, (.op (.ibin .lss (.t 125) (.t 127)))⟩]
def rdep_r37 : List AI := [⟨(some 131), none, (.op (.mv (.t 9)))⟩, ⟨(some 132), none, (.op (.mv (.t 17)))⟩, ⟨(some 133), none, (.op (.mv (.t 18)))⟩, ⟨(some 134), none, (.op (.idx 1 (.t 132) (.t 133)))⟩, ⟨(some 135), none, (.op (.load none (.t 134)))⟩, ⟨(some 136), none, (.op (.idx 1 (.t 131) (.t 135)))⟩, ⟨(some 137), none, (.op (.load none (.t 136)))⟩, ⟨(some 138), none, (.op (.ibin .geq (.t 137) (.c (.int .i64 0))))⟩, ⟨(some 139), none, (.op (.mv (.t 138)))⟩, ⟨(some 140), (some (139, true)), (.op (.mv (.t 9)))⟩, ⟨(some 141), (some (139, true)), (.op (.mv (.t 17)))⟩, ⟨(some 142), (some (139, true)), (.op (.mv (.t 18)))⟩, ⟨(some 143), (some (139, true)), (.op (.idx 1 (.t 141) (.t 142)))⟩, ⟨(some 144), (some (139, true)), (.op (.load none (.t 143)))⟩, ⟨(some 145), (some (139, true)), (.op (.idx 1 (.t 140) (.t 144)))⟩, ⟨(some 146), (some (139, true)), (.op (.load none (.t 145)))⟩, ⟨(some 147), (some (139, true)), (.op (.mv (.t 16)))⟩, ⟨(some 148), (some (139, true)), (.op (.ibin .neq (.t 146) (.t 147)))⟩, ⟨(some 149), none, (.op (.pick (.t 139) (.t 148) (.c (.bool false))))⟩]
def rdep_r38 : List AI := [⟨(some 4), none, (.op (.mv (.c .nils)))⟩, ⟨(some 5), none, (.op (.mv (.c (.int .i64 (-1)))))⟩, ⟨(some 6), none, (.op (.mv (.c (.int .i64 5))))⟩]
def rdep_r39 : List AI := [⟨(some 150), none, (.op (.mv (.t 9)))⟩, ⟨(some 151), none, (.op (.mv (.t 17)))⟩, ⟨(some 152), none, (.op (.mv (.t 18)))⟩, ⟨(some 153), none, (.op (.idx 1 (.t 151) (.t 152)))⟩, ⟨(some 154), none, (.op (.load none (.t 153)))⟩, ⟨(some 155), none, (.op (.idx 1 (.t 150) (.t 154)))⟩, ⟨(some 156), none, (.op (.load none (.t 155)))⟩, ⟨(some 157), none, (.op (.ibin .lss (.t 156) (.c (.int .i64 0))))⟩]
def rdep_r40 : List AI := [⟨(some 158), none, (.op (.mv (.t 9)))⟩, ⟨(some 159), none, (.op (.mv (.t 17)))⟩, ⟨(some 160), none, (.op (.mv (.t 18)))⟩, ⟨(some 161), none, (.op (.idx 1 (.t 159) (.t 160)))⟩, ⟨(some 162), none, (.op (.load none (.t 161)))⟩, ⟨(some 163), none, (.op (.mv (.t 16)))⟩, ⟨(some 164), none, (.op (.idx 1 (.t 158) (.t 162)))⟩, ⟨none, none, (.op (.store 1 (.t 164) (.t 163)))⟩]
def rdep_r41 : List AI := [⟨(some 12), none, (.op (.mv (.c (.bool true))))⟩]
def rdep_r42 : List AI := [⟨(some 129), none, (.op (.mv (.t 18)))⟩, ⟨(some 130), none, (.op (.ibin .add (.t 129) (.c (.int .i64 1))))⟩, ⟨(some 18), none, (.op (.mv (.t 130)))⟩]
def rdep_l1 : AC := (.seq (.seq (.reg rdep_r36) (.cond (.t 128) .skip (.exit 7))) (.seq (.block 8 (.seq (.seq (.reg rdep_r37) (.cond (.t 149) (.seq (.reg rdep_r38) .ret) .skip)) (.seq (.reg rdep_r39) (.cond (.t 157) (.seq (.reg rdep_r40) (.reg rdep_r41)) .skip)))) (.reg rdep_r42)))
def rdep_r43 : List AI := [⟨(some 53), none, (.op (.mv (.t 13)))⟩, ⟨(some 54), none, (.op (.ibin .add (.t 53) (.c (.int .i64 1))))⟩, ⟨(some 13), none, (.op (.mv (.t 54)))⟩]
def rdep_l2 : AC := (.seq (.seq (.reg rdep_r16) (.cond (.t 52) .skip (.exit 4))) (.seq (.block 5 (.seq (.seq (.reg rdep_r17) (.cond (.t 59) (.exit 5) .skip)) (.seq (.reg rdep_r18) (.seq (.reg rdep_r19) (.seq (.seq (.reg rdep_r20) (.cond (.t 69) (.reg rdep_r21) .skip)) (.seq (.regd rdep_r22 rdep_p22) (.seq (.seq (.reg rdep_r23) (.cond (.t 98) (.seq (.reg rdep_r24) .ret) .skip)) (.seq (.reg rdep_r25) (.seq (.reg rdep_r26) (.seq (.seq (.reg rdep_r27) (.block 6 (.seq (.reg rdep_r28) (.cond (.t 111) (.reg rdep_r29) (.seq (.reg rdep_r30) (.cond (.t 116) (.reg rdep_r31) (.seq (.reg rdep_r32) (.cond (.t 123) (.reg rdep_r33) (.reg rdep_r34))))))))) (.seq (.reg rdep_r35) (.block 7 (.loop rdep_l1))))))))))))) (.reg rdep_r43)))
def rdep_l3 : AC := (.seq (.seq (.reg rdep_r13) (.cond (.t 49) .skip (.exit 2))) (.block 3 (.seq (.reg rdep_r14) (.seq (.reg rdep_r15) (.block 4 (.loop rdep_l2))))))
def rdep_r44 : List AI := [⟨(some 165), none, (.op (.mv (.t 9)))⟩, ⟨(some 166), none, (.op (.mv (.t 11)))⟩, ⟨(some 4), none, (.op (.mv (.t 165)))⟩, ⟨(some 5), none, (.op (.mv (.t 166)))⟩, ⟨(some 6), none, (.op (.mv (.c (.int .i64 0))))⟩]
def rdep_c : AC := (.seq (.reg rdep_r0) (.seq (.seq (.reg rdep_r1) (.cond (.t 27) (.seq (.reg rdep_r2) .ret) .skip)) (.seq (.reg rdep_r3) (.seq (.reg rdep_r4) (.seq (.reg rdep_r5) (.seq (.seq (.reg rdep_r6) (.block 0 (.loop rdep_l0))) (.seq (.reg rdep_r10) (.seq (.reg rdep_r11) (.seq (.seq (.reg rdep_r12) (.block 2 (.loop rdep_l3))) (.seq (.reg rdep_r44) .ret))))))))))
def rdep_res : List ARes := [(.tmp 4), (.tmp 5), (.tmp 6)]
set_option maxRecDepth 100000 in
theorem rdep_get : getF Tryz.prog 26 38000 [] = some ("gavotte/gavotteref1.Depths", 167, rdep_c, rdep_res) := by kernel_rfl
def rcflow_r0 : List AI := [⟨(some 1), none, (.op (.box 37001 4 (.t 0)))⟩, ⟨(some 2), none, (.op (.mv (.c (.int .i64 0))))⟩]
def rcflow_r1 : List AI := [⟨(some 5), none, (.op (.load (some 4) (.t 1)))⟩, ⟨(some 6), none, (.call (.c (.fn 25 [])) [(.t 5)])⟩, ⟨(some 3), none, (.op (.mv (.t 6)))⟩]
def rcflow_r2 : List AI := [⟨(some 4), none, (.op (.mv (.c (.int .i64 0))))⟩]
def rcflow_r3 : List AI := [⟨(some 7), none, (.op (.mv (.t 4)))⟩, ⟨(some 8), none, (.op (.fld 0 (.t 1)))⟩, ⟨(some 9), none, (.op (.load none (.t 8)))⟩, ⟨(some 10), none, (.op (.len (.t 9)))⟩, ⟨(some 11), none, (.op (.ibin .lss (.t 7) (.t 10)))⟩, ⟨(some 12), none, (.op (.mv (.t 11)))⟩, ⟨(some 13), (some (12, true)), (.op (.mv (.t 3)))⟩, ⟨(some 14), (some (12, true)), (.op (.ibin .eql (.t 13) (.c (.int .i64 0))))⟩, ⟨(some 15), none, (.op (.pick (.t 12) (.t 14) (.c (.bool false))))⟩]
def rcflow_r4 : List AI := [⟨(some 19), none, (.op (.load (some 4) (.t 1)))⟩, ⟨(some 20), none, (.op (.mv (.t 4)))⟩, ⟨(some 21), none, (.call (.c (.fn 26 [])) [(.t 19), (.t 20)])⟩, ⟨(some 18), none, (.op (.mv (.t 21)))⟩, ⟨(some 22), none, (.op (.ext (.t 18) 0))⟩, ⟨(some 23), none, (.op (.ext (.t 18) 1))⟩, ⟨(some 24), none, (.op (.ext (.t 18) 2))⟩, ⟨(some 3), none, (.op (.mv (.t 24)))⟩]
def rcflow_r5 : List AI := [⟨(some 16), none, (.op (.mv (.t 4)))⟩, ⟨(some 17), none, (.op (.ibin .add (.t 16) (.c (.int .i64 1))))⟩, ⟨(some 4), none, (.op (.mv (.t 17)))⟩]
def rcflow_l0 : AC := (.seq (.seq (.reg rcflow_r3) (.cond (.t 15) .skip (.exit 0))) (.seq (.block 1 (.reg rcflow_r4)) (.reg rcflow_r5)))
def rcflow_r6 : List AI := [⟨(some 25), none, (.op (.mv (.t 3)))⟩, ⟨(some 2), none, (.op (.mv (.t 25)))⟩]
def rcflow_c : AC := (.seq (.reg rcflow_r0) (.seq (.reg rcflow_r1) (.seq (.seq (.reg rcflow_r2) (.block 0 (.loop rcflow_l0))) (.seq (.reg rcflow_r6) .ret))))
def rcflow_res : List ARes := [(.tmp 2)]
set_option maxRecDepth 100000 in
theorem rcflow_get : getF Tryz.prog 8 37000 [] = some ("gavotte/gavotteref1.CheckFlow", 26, rcflow_c, rcflow_res) := by kernel_rfl
attribute [simp] rdep_r0 rdep_r1 rdep_r2 rdep_r3 rdep_r4 rdep_r5 rdep_r6 rdep_r7 rdep_r8 rdep_r9 rdep_r10 rdep_r11 rdep_r12 rdep_r13 rdep_r14 rdep_r15 rdep_r16 rdep_r17 rdep_r18 rdep_r19 rdep_r20 rdep_r21 rdep_r22 rdep_p22 rdep_r23 rdep_r24 rdep_r25 rdep_r26 rdep_r27 rdep_r28 rdep_r29 rdep_r30 rdep_r31 rdep_r32 rdep_r33 rdep_r34 rdep_r35 rdep_r36 rdep_r37 rdep_r38 rdep_r39 rdep_r40 rdep_r41 rdep_r42 rdep_r43 rdep_r44 rdep_res rcflow_r0 rcflow_r1 rcflow_r2 rcflow_r3 rcflow_r4 rcflow_r5 rcflow_r6 rcflow_res


def rvisit1 (d : Int) (s : List Int × Bool) (k : Nat) : Option (List Int × Bool) :=
  match s.1[k]? with
  | some x => if 0 ≤ x ∧ x ≠ d then none else if x < 0 then some (s.1.set k d, true) else some s
  | none => none
def rvisitL (d : Int) : List Nat → List Int × Bool → Option (List Int × Bool)
  | [], s => some s
  | k :: ks, s => (rvisit1 d s k).bind (rvisitL d ks)
/-- Lists, the most, whether something is new. -/
structure RS where
  l : List Int
  most : Int
  again : Bool
def rstep (hs : List Hnd) (code : List Ins) (s : RS) (i : Nat) : Option RS :=
  match s.l[i]?, code[i]? with
  | some x, some c =>
    if x < 0 then some s else if x < takesV hs c ∨ x - takesV hs c + putsV c.op > 8 then none else
      match rvisitL (x - takesV hs c + putsV c.op) (nextV i c) (s.l, s.again) with
      | some r => some ⟨r.1, max (max s.most x) (x - takesV hs c + putsV c.op), r.2⟩
      | none => none
  | _, _ => none
def rpass (hs : List Hnd) (code : List Ins) : List Nat → RS → Option RS
  | [], s => some s
  | i :: is, s => (rstep hs code s i).bind (rpass hs code is)
def rgo (hs : List Hnd) (code : List Ins) : Nat → List Int → Int → Option (List Int × Int)
  | 0, _, _ => none
  | f + 1, l, most => match rpass hs code (List.range code.length) ⟨l, most, false⟩ with
    | some s => if s.again = true then rgo hs code f s.l s.most else some (s.l, s.most)
    | none => none
def rwalkV (hs : List Hnd) (code : List Ins) : Option (List Int × Int) := rgo hs code (code.length + 3) ((List.replicate (code.length + 1) (-1)).set 0 0) 0
/-- The lists are as they should be. -/
structure WfR (n : Nat) (l : List Int) : Prop where
  len : l.length = n + 1
  rng : ∀ x ∈ l, -1 ≤ x ∧ x ≤ 8
theorem rvisit1_ok {m : Nat} {d : Int} {s s' : List Int × Bool} {k : Nat} (h : rvisit1 d s k = some s') (hd : 0 ≤ d ∧ d ≤ 8) (hw : WfR m s.1) : WfR m s'.1 ∧ (s'.2 = s.2 ∧ s'.1 = s.1 ∨ s'.2 = true ∧ unr s'.1 + 1 = unr s.1) := by
  unfold rvisit1 at h
  split at h
  · rename_i x hx
    have hr := hw.rng x (List.mem_of_getElem? hx)
    split at h
    · cases h
    · split at h
      · cases h
        refine ⟨⟨by simpa using hw.len, ?_⟩, .inr ⟨rfl, unr_set _ _ _ (by rw [hx]; congr 1; omega) (by omega)⟩⟩
        intro y hy
        rcases List.mem_or_eq_of_mem_set hy with hy | hy
        · exact hw.rng y hy
        · omega
      · cases h; exact ⟨hw, .inl ⟨rfl, rfl⟩⟩
  · cases h
theorem rvisitL_ok {m : Nat} {d : Int} : ∀ {ks : List Nat} {s s' : List Int × Bool}, rvisitL d ks s = some s' → (0 ≤ d ∧ d ≤ 8) → WfR m s.1 → WfR m s'.1 ∧ (s'.2 = s.2 ∧ s'.1 = s.1 ∨ s'.2 = true ∧ unr s'.1 + 1 ≤ unr s.1)
  | [], s, s', h, _, hw => by cases h; exact ⟨hw, .inl ⟨rfl, rfl⟩⟩
  | k :: ks, s, s', h, hd, hw => by
    simp only [rvisitL, Option.bind_eq_some_iff] at h
    obtain ⟨s1, h1, h2⟩ := h
    obtain ⟨a1, a2⟩ := rvisit1_ok h1 hd hw
    obtain ⟨b1, b2⟩ := rvisitL_ok h2 hd a1
    refine ⟨b1, ?_⟩
    rcases a2 with ⟨a2, a3⟩ | ⟨a2, a3⟩ <;> rcases b2 with ⟨b2, b3⟩ | ⟨b2, b3⟩
    · exact .inl ⟨b2.trans a2, b3.trans a3⟩
    · exact .inr ⟨b2, by rw [← a3]; exact b3⟩
    · exact .inr ⟨b2.trans a2, by rw [b3]; omega⟩
    · exact .inr ⟨b2, by omega⟩

/-- A list that is a literal, or nil. -/
def IsL (v : AV) (ks : List Nat) : Prop := (v = .nils ∧ ks = []) ∨ ∃ nm st, v = .acc nm st 1 (ks.map (fun n : Nat => iv n))
def RB (S : St) (p : Prg) (code : List Ins) (l : List Int) (most : Int) (again : Bool) : Prop :=
  (∃ st, S.t 2 = .ptr 38002 st 4 0 0 ∧ S.blk 38002 = some ⟨st, 4, [p.av]⟩) ∧ S.t 7 = .lst 2 (code.map Ins.av) ∧ S.t 8 = iv code.length ∧
  (∃ st, S.t 9 = .sl 38038 st 1 0 l.length ∧ S.blk 38038 = some ⟨st, 1, l.map iv⟩) ∧ S.t 11 = iv most ∧ S.t 12 = .bool again
def RJ (p : Prg) (code : List Ins) (d : Int) (ks : List Nat) (most : Int) (i : Nat) (R : Option (List Int × Bool)) (j : Nat) (S : St) : Prop :=
  ∃ (l : List Int) (ag : Bool), rvisitL d (ks.drop j) (l, ag) = R ∧ WfR code.length l ∧ RB S p code l most ag ∧ S.t 13 = iv i ∧ S.t 16 = iv d ∧ IsL (S.t 17) ks ∧ S.t 18 = iv j
theorem rd_inner (p : Prg) (code : List Ins) (d : Int) (hd : 0 ≤ d ∧ d ≤ 8) (ks : List Nat) (hk : ∀ k ∈ ks, k ≤ code.length) (hkl : ks.length ≤ 2) (l0 : List Int) (ag0 : Bool) (most : Int) (i : Nat) (hw : WfR code.length l0)
    (κ : Ex → St → Prop) (S : St) (u : Dep κ) (hB : RB S p code l0 most ag0) (h13 : S.t 13 = iv i) (h16 : S.t 16 = iv d) (h17 : IsL (S.t 17) ks) (h18 : S.t 18 = iv 0)
    (hok : ∀ r S', rvisitL d ks (l0, ag0) = some r → RB S' p code r.1 most r.2 → S'.t 13 = iv i → κ (.exit 7) S')
    (hno : ∀ S', rvisitL d ks (l0, ag0) = none → S'.t 4 = .nils → S'.t 5 = iv (-1) → S'.t 6 = iv 5 → κ .ret S') : LoopG Tryz.prog rdep_l1 κ S u := by
  refine loopN (RJ p code d ks most i (rvisitL d ks (l0, ag0))) ks.length ?_ ?_
  · exact ⟨l0, ag0, rfl, hw, hB, h13, h16, h17, h18⟩
  clear hw hB h13 h16 h17 h18
  rintro j S hj ⟨l, ag, hv, hw, ⟨⟨s2, g2, b2⟩, g7, g8, ⟨s9, g9, b9⟩, g11, g12⟩, h13, h16, h17, h18⟩
  by_cases hjl : j < ks.length
  · have hdr : ks.drop j = ks[j] :: ks.drop (j + 1) := List.drop_eq_getElem_cons hjl
    have hkj := hk _ (List.getElem_mem hjl)
    have hlen := hw.len
    have hko : ks[j] < l.length := by omega
    have hr := hw.rng _ (List.getElem_mem hko)
    have e : l[ks[j]]? = some l[ks[j]] := List.getElem?_eq_getElem hko
    have wj := wrap_succ j _ hjl (by omega)
    rw [hdr] at hv
    simp only [rvisitL] at hv
    rcases h17 with ⟨_, q⟩ | ⟨nm, st, h17⟩
    · rw [q] at hjl; simp at hjl
    have hv1 : rvisit1 d (l, ag) ks[j] = if 0 ≤ l[ks[j]] ∧ l[ks[j]] ≠ d then none else if l[ks[j]] < 0 then some (l.set ks[j] d, true) else some (l, ag) := by
      unfold rvisit1; simp only [e]
    simp [rdep_l1, g2, g7, g8, g9, g11, g12, b2, b9, h13, h16, h17, h18, hjl, hko]
    refine split (fun h0 => ?_) (fun h0 => ?_)
    · simp [h0, g2, g7, g8, g9, g11, g12, b2, b9, h13, h16, h17, h18, hjl, hko]
      refine split (fun h1 => ?_) (fun h1 => ?_)
      · rw [if_neg (by omega), if_neg (by omega)] at hv1
        rw [hv1] at hv
        simp only [Option.bind_some] at hv
        have h0' : ¬ l[ks[j]] < 0 := by omega
        simp [h1, g2, g7, g8, g9, g11, g12, b2, b9, h13, h16, h17, h18, hjl, hko]
        have hd' : ¬ d < 0 := by omega
        simp [hd', h18, wj]
        exact ⟨l, ag, hv, hw, ⟨by simp [g2, b2], by simp [g7], by simp [g8], by simp [g9, b9], by simp [g11], by simp [g12]⟩, by simp [h13], by simp [h16], .inr ⟨nm, st, by simp [h17]⟩, by simp⟩
      · rw [if_pos ⟨h0, h1⟩] at hv1
        rw [hv1] at hv
        simp only [Option.bind_none] at hv
        simp [h1]
        exact hno _ hv.symm (by simp) (by simp) (by simp)
    · have h0' : l[ks[j]] < 0 := by omega
      rw [if_neg (by omega), if_pos h0'] at hv1
      rw [hv1] at hv
      simp only [Option.bind_some] at hv
      simp [h0, g2, g7, g8, g9, g11, g12, b2, b9, h13, h16, h17, h18, hjl, hko, h0']
      simp [h18, wj]
      have hw2 := (rvisit1_ok (s := (l, ag)) (s' := (l.set ks[j] d, true)) (k := ks[j]) (d := d) (m := code.length) hv1 hd hw).1
      refine ⟨l.set ks[j] d, true, hv, hw2, ⟨by simp [g2, b2], by simp [g7], by simp [g8], by simp [g9, b9, List.map_set], by simp [g11], by simp⟩, by simp [h13], by simp [h16], .inr ⟨nm, st, by simp [h17]⟩, by simp⟩
  · have hjl : j = ks.length := by omega
    subst hjl
    rw [List.drop_length] at hv
    simp only [rvisitL] at hv
    have hfin : V Tryz.prog rdep_l1 (Lp κ fun S'' => ks.length < ks.length ∧ RJ p code d ks most i (rvisitL d ks (l0, ag0)) (ks.length + 1) S'') S := by
      rcases h17 with ⟨h17, q⟩ | ⟨nm, st, h17⟩
      · subst q
        simp at h18
        simp [rdep_l1, h17, h18]
        exact hok _ _ hv.symm ⟨by simp [g2, b2], by simp [g7], by simp [g8], by simp [g9, b9], by simp [g11], by simp [g12]⟩ (by simp [h13])
      · simp [rdep_l1, h17, h18]
        exact hok _ _ hv.symm ⟨by simp [g2, b2], by simp [g7], by simp [g8], by simp [g9, b9], by simp [g11], by simp [g12]⟩ (by simp [h13])
    exact hfin
def RM (p : Prg) (code : List Ins) (R : Option RS) (i : Nat) (S : St) : Prop :=
  ∃ s : RS, rpass p.hs code (List.range' i (code.length - i)) s = R ∧ WfR code.length s.l ∧ RB S p code s.l s.most s.again ∧ S.t 13 = iv i
theorem rd_mid (p : Prg) (code : List Ins) (hc : codeOk p.hs code) (s0 : RS) (hw : WfR code.length s0.l)
    (κ : Ex → St → Prop) (S : St) (u : Dep κ) (hB : RB S p code s0.l s0.most s0.again) (h13 : S.t 13 = iv 0)
    (hok : ∀ (s : RS) S', rpass p.hs code (List.range code.length) s0 = some s → WfR code.length s.l → RB S' p code s.l s.most s.again → κ (.exit 4) S')
    (hno : ∀ S', rpass p.hs code (List.range code.length) s0 = none → S'.t 4 = .nils → S'.t 5 = iv (-1) → S'.t 6 = iv 5 → κ .ret S') : LoopG Tryz.prog rdep_l2 κ S u := by
  have hlen := hc.1
  refine loopN (RM p code (rpass p.hs code (List.range code.length) s0)) code.length ?_ ?_
  · exact ⟨s0, by rw [List.range_eq_range']; rfl, hw, hB, h13⟩
  clear hw hB h13
  rintro i S hi ⟨s, hv, hw, ⟨⟨s2, g2, b2⟩, g7, g8, ⟨s9, g9, b9⟩, g11, g12⟩, h13⟩
  by_cases hlt : i < code.length
  · have hrg : List.range' i (code.length - i) = i :: List.range' (i + 1) (code.length - (i + 1)) := by
      rw [show code.length - i = (code.length - (i + 1)) + 1 by omega, List.range'_succ]
    rw [hrg] at hv
    simp only [rpass] at hv
    have hll := hw.len
    have hil : i < s.l.length := by omega
    have e1 : s.l[i]? = some s.l[i] := List.getElem?_eq_getElem hil
    have e2 : code[i]? = some code[i] := List.getElem?_eq_getElem hlt
    have hr := hw.rng _ (List.getElem_mem hil)
    have wi := wrap_succ i _ hlt (by omega)
    simp [rdep_l2, g2, g7, g8, g9, g11, g12, b2, b9, h13, hlt, hil]
    refine split (fun h0 => ?_) (fun h0 => ?_)
    · have hst : rstep p.hs code s i = some s := by unfold rstep; simp only [e1, e2]; rw [if_pos h0]
      rw [hst] at hv
      simp only [Option.bind_some] at hv
      simp [h13, wi]
      exact ⟨s, hv, hw, ⟨by simp [g2, b2], by simp [g7], by simp [g8], by simp [g9, b9], by simp [g11], by simp [g12]⟩, by simp⟩
    · obtain ⟨hok1, hjmp⟩ := hc.2 _ (List.getElem_mem hlt)
      have htk := takesV_range hok1
      have hpt := putsV_range (code[i]).op
      have hpp := popsV_range (code[i]).op
      have hst : rstep p.hs code s i = if s.l[i] < takesV p.hs code[i] ∨ s.l[i] - takesV p.hs code[i] + putsV (code[i]).op > 8 then none else
          match rvisitL (s.l[i] - takesV p.hs code[i] + putsV (code[i]).op) (nextV i code[i]) (s.l, s.again) with
          | some r => some ⟨r.1, max (max s.most s.l[i]) (s.l[i] - takesV p.hs code[i] + putsV (code[i]).op), r.2⟩
          | none => none := by
        unfold rstep; simp only [e1, e2]; rw [if_neg h0]
      have wt : IntKind.i64.wrap (s.l[i] - takesV p.hs code[i]) = s.l[i] - takesV p.hs code[i] := wrap_in _ (by omega) (by omega)
      have wp : IntKind.i64.wrap (s.l[i] - takesV p.hs code[i] + putsV (code[i]).op) = s.l[i] - takesV p.hs code[i] + putsV (code[i]).op := wrap_in _ (by omega) (by omega)
      simp [g2, g7, g8, g9, g11, g12, b2, b9, h13, hlt, hil]
      refine call (rpops_pc (code[i]).op) (by simp) ?_
      simp
      have hks := nextV_le hc e2
      have hkl : (nextV i code[i]).length ≤ 2 := by unfold nextV; (repeat' split) <;> simp
      have ht0 : popsV (code[i]).op = takesV p.hs code[i] ∨ (code[i]).op = 22 := by
        by_cases h22 : (code[i]).op = 22
        · exact .inr h22
        · left; unfold takesV; rw [if_neg h22]; omega
      refine split (fun h22 => ?_) (fun h22 => ?_)
      · obtain ⟨k1, k2, k3, k4⟩ := hok1 h22
        have ea : argsOf p.hs (code[i]).a = p.hs[(code[i]).a.toNat].args := by simp [argsOf, k2]
        have wa : IntKind.i64.wrap (popsV (code[i]).op + p.hs[(code[i]).a.toNat].args) = takesV p.hs code[i] := by
          rw [wrap_in _ (by omega) (by omega)]; unfold takesV; rw [if_pos h22, ea]
        simp [g2, g7, g8, g9, g11, g12, b2, b9, h13, hlt, hil, k1, k2, wa]
        refine calld (rputs_pc (code[i]).op) (by simp) ?_
        simp [g2, g7, g8, g9, g11, g12, b2, b9, h13, hlt, hil, wt, wp]
        refine split (fun hn1 => ?_) (fun hn1 => ?_) <;> simp [hn1]
        · rw [if_pos (.inl hn1)] at hst
          rw [hst] at hv
          simp only [Option.bind_none] at hv
          exact hno _ hv.symm (by simp) (by simp) (by simp)
        refine split (fun hn2 => ?_) (fun hn2 => ?_) <;> simp [hn2]
        · rw [if_pos (.inr hn2)] at hst
          rw [hst] at hv
          simp only [Option.bind_none] at hv
          exact hno _ hv.symm (by simp) (by simp) (by simp)
        rw [if_neg (by omega)] at hst
        simp [g2, g7, g8, g9, g11, g12, b2, b9, h13, hlt, hil]
        generalize hn : s.l[i] - takesV p.hs code[i] + putsV (code[i]).op = d at hst wp ⊢
        have hd : 0 ≤ d ∧ d ≤ 8 := by omega
        have inner : ∀ (κ : Ex → St → Prop) (S : St) (u : Dep κ), RB S p code s.l (max (max s.most s.l[i]) d) s.again → S.t 13 = iv i → S.t 16 = iv d → IsL (S.t 17) (nextV i code[i]) → S.t 18 = iv 0 →
            (∀ s' S', rstep p.hs code s i = some s' → WfR code.length s'.l → RB S' p code s'.l s'.most s'.again → S'.t 13 = iv i → κ (.exit 7) S') → (∀ S', rstep p.hs code s i = none → S'.t 4 = .nils → S'.t 5 = iv (-1) → S'.t 6 = iv 5 → κ .ret S') → LoopG Tryz.prog rdep_l1 κ S u := by
          intro κ S u q1 q2 q3 q4 q5 q6 q7
          refine rd_inner p code d hd (nextV i code[i]) hks hkl s.l s.again _ i hw κ S u q1 q2 q3 q4 q5 ?_ ?_
          · intro r S' hr hB hi
            rw [hr] at hst
            exact q6 _ S' hst ((rvisitL_ok hr hd hw).1) hB hi
          · intro S' hr
            rw [hr] at hst
            exact q7 S' hst
        have goOn : ∀ (s' : RS) (S' T : St), rstep p.hs code s i = some s' → WfR code.length s'.l → RB S' p code s'.l s'.most s'.again → (∀ x, x ≠ 53 → x ≠ 54 → x ≠ 13 → T.t x = S'.t x) → T.blk = S'.blk → T.t 13 = iv ((i + 1 : Nat) : Int) → RM p code (rpass p.hs code (List.range code.length) s0) (i + 1) T := by
          intro s' S' T h1 h2 ⟨⟨a1, a2, a3⟩, a4, a5, ⟨a6, a7, a8⟩, a9, a10⟩ hT hb h4
          rw [h1] at hv
          simp only [Option.bind_some] at hv
          have e := fun x h1 h2 h3 => hT x h1 h2 h3
          exact ⟨s', hv, h2, ⟨⟨a1, by rw [e 2 (by decide) (by decide) (by decide)]; exact a2, by rw [hb]; exact a3⟩, by rw [e 7 (by decide) (by decide) (by decide)]; exact a4, by rw [e 8 (by decide) (by decide) (by decide)]; exact a5,
            ⟨a6, by rw [e 9 (by decide) (by decide) (by decide)]; exact a7, by rw [hb]; exact a8⟩, by rw [e 11 (by decide) (by decide) (by decide)]; exact a9, by rw [e 12 (by decide) (by decide) (by decide)]; exact a10⟩, h4⟩
        have stop : ∀ S', rstep p.hs code s i = none → S'.t 4 = .nils → S'.t 5 = iv (-1) → S'.t 6 = iv 5 → κ .ret S' := by
          intro S' h1
          rw [h1] at hv
          simp only [Option.bind_none] at hv
          exact hno S' hv.symm
        refine split (fun h20 => ?_) (fun h20 => ?_) <;> simp [h20]
        · have q := hjmp (.inl h20)
          refine inner _ _ _ ⟨by simp [g2, b2], by simp [g7], by simp [g8], by simp [g9, b9], by simp, by simp [g12]⟩ (by simp [h13]) (by simp) (.inr ⟨38115, _, by simp [nextV, h20, Int.toNat_of_nonneg q.1]; rfl⟩) (by simp) (fun s' S' a b c d => ?_) (fun S' a b c d => ?_)
          · simp [d, wi]
            exact goOn s' S' _ a b c (fun x h1 h2 h3 => by simp [h1, h2, h3]) rfl (by simp)
          · simp; exact stop S' a b c d
        refine split (fun h21 => ?_) (fun h21 => ?_) <;> simp [h21]
        · have q := hjmp (.inr h21)
          simp [h13, wi]
          refine inner _ _ _ ⟨by simp [g2, b2], by simp [g7], by simp [g8], by simp [g9, b9], by simp, by simp [g12]⟩ (by simp [h13]) (by simp) (.inr ⟨38122, _, by simp [nextV, h21, Int.toNat_of_nonneg q.1]; rfl⟩) (by simp) (fun s' S' a b c d => ?_) (fun S' a b c d => ?_)
          · simp [d, wi]
            exact goOn s' S' _ a b c (fun x h1 h2 h3 => by simp [h1, h2, h3]) rfl (by simp)
          · simp; exact stop S' a b c d
        refine split (fun h25 => ?_) (fun h25 => ?_) <;> simp [h25]
        · refine inner _ _ _ ⟨by simp [g2, b2], by simp [g7], by simp [g8], by simp [g9, b9], by simp, by simp [g12]⟩ (by simp [h13]) (by simp) (.inl ⟨by simp, by simp [nextV, h25]⟩) (by simp) (fun s' S' a b c d => ?_) (fun S' a b c d => ?_)
          · simp [d, wi]
            exact goOn s' S' _ a b c (fun x h1 h2 h3 => by simp [h1, h2, h3]) rfl (by simp)
          · simp; exact stop S' a b c d
        · simp [h13, wi]
          refine inner _ _ _ ⟨by simp [g2, b2], by simp [g7], by simp [g8], by simp [g9, b9], by simp, by simp [g12]⟩ (by simp [h13]) (by simp) (.inr ⟨38110, _, by simp [nextV, h20, h21, h25]; rfl⟩) (by simp) (fun s' S' a b c d => ?_) (fun S' a b c d => ?_)
          · simp [d, wi]
            exact goOn s' S' _ a b c (fun x h1 h2 h3 => by simp [h1, h2, h3]) rfl (by simp)
          · simp; exact stop S' a b c d
      · have ht1 := ht0.resolve_right h22
        rw [ht1]
        simp [g2, g7, g8, g9, g11, g12, b2, b9, h13, hlt, hil]
        refine calld (rputs_pc (code[i]).op) (by simp) ?_
        simp [g2, g7, g8, g9, g11, g12, b2, b9, h13, hlt, hil, wt, wp]
        refine split (fun hn1 => ?_) (fun hn1 => ?_) <;> simp [hn1]
        · rw [if_pos (.inl hn1)] at hst
          rw [hst] at hv
          simp only [Option.bind_none] at hv
          exact hno _ hv.symm (by simp) (by simp) (by simp)
        refine split (fun hn2 => ?_) (fun hn2 => ?_) <;> simp [hn2]
        · rw [if_pos (.inr hn2)] at hst
          rw [hst] at hv
          simp only [Option.bind_none] at hv
          exact hno _ hv.symm (by simp) (by simp) (by simp)
        rw [if_neg (by omega)] at hst
        simp [g2, g7, g8, g9, g11, g12, b2, b9, h13, hlt, hil]
        generalize hn : s.l[i] - takesV p.hs code[i] + putsV (code[i]).op = d at hst wp ⊢
        have hd : 0 ≤ d ∧ d ≤ 8 := by omega
        have inner : ∀ (κ : Ex → St → Prop) (S : St) (u : Dep κ), RB S p code s.l (max (max s.most s.l[i]) d) s.again → S.t 13 = iv i → S.t 16 = iv d → IsL (S.t 17) (nextV i code[i]) → S.t 18 = iv 0 →
            (∀ s' S', rstep p.hs code s i = some s' → WfR code.length s'.l → RB S' p code s'.l s'.most s'.again → S'.t 13 = iv i → κ (.exit 7) S') → (∀ S', rstep p.hs code s i = none → S'.t 4 = .nils → S'.t 5 = iv (-1) → S'.t 6 = iv 5 → κ .ret S') → LoopG Tryz.prog rdep_l1 κ S u := by
          intro κ S u q1 q2 q3 q4 q5 q6 q7
          refine rd_inner p code d hd (nextV i code[i]) hks hkl s.l s.again _ i hw κ S u q1 q2 q3 q4 q5 ?_ ?_
          · intro r S' hr hB hi
            rw [hr] at hst
            exact q6 _ S' hst ((rvisitL_ok hr hd hw).1) hB hi
          · intro S' hr
            rw [hr] at hst
            exact q7 S' hst
        have goOn : ∀ (s' : RS) (S' T : St), rstep p.hs code s i = some s' → WfR code.length s'.l → RB S' p code s'.l s'.most s'.again → (∀ x, x ≠ 53 → x ≠ 54 → x ≠ 13 → T.t x = S'.t x) → T.blk = S'.blk → T.t 13 = iv ((i + 1 : Nat) : Int) → RM p code (rpass p.hs code (List.range code.length) s0) (i + 1) T := by
          intro s' S' T h1 h2 ⟨⟨a1, a2, a3⟩, a4, a5, ⟨a6, a7, a8⟩, a9, a10⟩ hT hb h4
          rw [h1] at hv
          simp only [Option.bind_some] at hv
          have e := fun x h1 h2 h3 => hT x h1 h2 h3
          exact ⟨s', hv, h2, ⟨⟨a1, by rw [e 2 (by decide) (by decide) (by decide)]; exact a2, by rw [hb]; exact a3⟩, by rw [e 7 (by decide) (by decide) (by decide)]; exact a4, by rw [e 8 (by decide) (by decide) (by decide)]; exact a5,
            ⟨a6, by rw [e 9 (by decide) (by decide) (by decide)]; exact a7, by rw [hb]; exact a8⟩, by rw [e 11 (by decide) (by decide) (by decide)]; exact a9, by rw [e 12 (by decide) (by decide) (by decide)]; exact a10⟩, h4⟩
        have stop : ∀ S', rstep p.hs code s i = none → S'.t 4 = .nils → S'.t 5 = iv (-1) → S'.t 6 = iv 5 → κ .ret S' := by
          intro S' h1
          rw [h1] at hv
          simp only [Option.bind_none] at hv
          exact hno S' hv.symm
        refine split (fun h20 => ?_) (fun h20 => ?_) <;> simp [h20]
        · have q := hjmp (.inl h20)
          refine inner _ _ _ ⟨by simp [g2, b2], by simp [g7], by simp [g8], by simp [g9, b9], by simp, by simp [g12]⟩ (by simp [h13]) (by simp) (.inr ⟨38115, _, by simp [nextV, h20, Int.toNat_of_nonneg q.1]; rfl⟩) (by simp) (fun s' S' a b c d => ?_) (fun S' a b c d => ?_)
          · simp [d, wi]
            exact goOn s' S' _ a b c (fun x h1 h2 h3 => by simp [h1, h2, h3]) rfl (by simp)
          · simp; exact stop S' a b c d
        refine split (fun h21 => ?_) (fun h21 => ?_) <;> simp [h21]
        · have q := hjmp (.inr h21)
          simp [h13, wi]
          refine inner _ _ _ ⟨by simp [g2, b2], by simp [g7], by simp [g8], by simp [g9, b9], by simp, by simp [g12]⟩ (by simp [h13]) (by simp) (.inr ⟨38122, _, by simp [nextV, h21, Int.toNat_of_nonneg q.1]; rfl⟩) (by simp) (fun s' S' a b c d => ?_) (fun S' a b c d => ?_)
          · simp [d, wi]
            exact goOn s' S' _ a b c (fun x h1 h2 h3 => by simp [h1, h2, h3]) rfl (by simp)
          · simp; exact stop S' a b c d
        refine split (fun h25 => ?_) (fun h25 => ?_) <;> simp [h25]
        · refine inner _ _ _ ⟨by simp [g2, b2], by simp [g7], by simp [g8], by simp [g9, b9], by simp, by simp [g12]⟩ (by simp [h13]) (by simp) (.inl ⟨by simp, by simp [nextV, h25]⟩) (by simp) (fun s' S' a b c d => ?_) (fun S' a b c d => ?_)
          · simp [d, wi]
            exact goOn s' S' _ a b c (fun x h1 h2 h3 => by simp [h1, h2, h3]) rfl (by simp)
          · simp; exact stop S' a b c d
        · simp [h13, wi]
          refine inner _ _ _ ⟨by simp [g2, b2], by simp [g7], by simp [g8], by simp [g9, b9], by simp, by simp [g12]⟩ (by simp [h13]) (by simp) (.inr ⟨38110, _, by simp [nextV, h20, h21, h25]; rfl⟩) (by simp) (fun s' S' a b c d => ?_) (fun S' a b c d => ?_)
          · simp [d, wi]
            exact goOn s' S' _ a b c (fun x h1 h2 h3 => by simp [h1, h2, h3]) rfl (by simp)
          · simp; exact stop S' a b c d
  · have e : i = code.length := by omega
    subst e
    rw [Nat.sub_self] at hv
    simp only [List.range'_zero, rpass] at hv
    simp [rdep_l2, g2, g7, g8, g9, g11, g12, b2, b9, h13]
    exact hok s _ hv.symm hw ⟨by simp [g2, b2], by simp [g7], by simp [g8], by simp [g9, b9], by simp [g11], by simp [g12]⟩

theorem rstep_ok {hs : List Hnd} {code : List Ins} {m : Nat} {s s' : RS} {i : Nat} (h : rstep hs code s i = some s') (hc : codeOk hs code) (hw : WfR m s.l) : WfR m s'.l ∧ (s'.again = s.again ∧ s'.l = s.l ∨ s'.again = true ∧ unr s'.l + 1 ≤ unr s.l) := by
  unfold rstep at h
  split at h
  · rename_i x c hx hcc
    split at h
    · cases h; exact ⟨hw, .inl ⟨rfl, rfl⟩⟩
    · split at h
      · cases h
      · rename_i h1 h2
        have hp := putsV_range c.op
        split at h
        · rename_i r hr
          cases h
          exact rvisitL_ok hr (by omega) hw
        · cases h
  · cases h
theorem rpass_ok {hs : List Hnd} {code : List Ins} {m : Nat} (hc : codeOk hs code) : ∀ {is : List Nat} {s s' : RS}, rpass hs code is s = some s' → WfR m s.l → WfR m s'.l ∧ (s'.again = s.again ∧ s'.l = s.l ∨ s'.again = true ∧ unr s'.l + 1 ≤ unr s.l)
  | [], s, s', h, hw => by cases h; exact ⟨hw, .inl ⟨rfl, rfl⟩⟩
  | i :: is, s, s', h, hw => by
    simp only [rpass, Option.bind_eq_some_iff] at h
    obtain ⟨s1, h1, h2⟩ := h
    obtain ⟨a1, a2⟩ := rstep_ok h1 hc hw
    obtain ⟨b1, b2⟩ := rpass_ok hc h2 a1
    refine ⟨b1, ?_⟩
    rcases a2 with ⟨a2, a3⟩ | ⟨a2, a3⟩ <;> rcases b2 with ⟨b2, b3⟩ | ⟨b2, b3⟩
    · exact .inl ⟨b2.trans a2, b3.trans a3⟩
    · exact .inr ⟨b2, by rw [← a3]; exact b3⟩
    · exact .inr ⟨b2.trans a2, by rw [b3]; omega⟩
    · exact .inr ⟨b2, by omega⟩
def rdepV (p : Prg) (h : Int) : List Int × Int × Int :=
  if h < 0 ∨ h ≥ p.hs.length then ([], -1, 7) else match p.hs[h.toNat]? with
    | some x => match rwalkV p.hs x.code with
      | some r => (r.1, r.2, 0)
      | none => ([], -1, 5)
    | none => ([], -1, 7)
def rdAV : Option (List Int × Int) → AV
  | some r => .tup [ints r.1, iv r.2, iv 0]
  | none => .tup [ints [], iv (-1), iv 5]
def RO (p : Prg) (code : List Ins) (R : Option (List Int × Int)) (f : Nat) (S : St) : Prop :=
  ∃ (l : List Int) (most : Int) (ag : Bool), RB S p code l most ag ∧ WfR code.length l ∧ (ag = true → rgo p.hs code f l most = R ∧ unr l < f) ∧ (ag = false → some (l, most) = R)
set_option maxHeartbeats 1000000 in
set_option maxRecDepth 10000 in
theorem rdep_pc (p : Prg) (h : Int) (hc : ∀ x ∈ p.hs, codeOk p.hs x.code) : PC Tryz.prog 26 [p.av, iv h] (.tup [ints (rdepV p h).1, iv (rdepV p h).2.1, iv (rdepV p h).2.2]) := by
  refine pc_of_get rdep_get (by simp) _ (by simp) _ ?_
  unfold rdep_c
  simp
  refine split (fun h1 => ?_) (fun h1 => ?_) <;> simp [h1]
  · simp [rdepV, h1]
  refine split (fun h2 => ?_) (fun h2 => ?_) <;> simp [h2]
  · simp [rdepV, h1, h2]
  have h0 : 0 ≤ h := by omega
  have hlt : h.toNat < p.hs.length := by omega
  have e : p.hs[h.toNat]? = some p.hs[h.toNat] := List.getElem?_eq_getElem hlt
  have hd : AV.tup [ints (rdepV p h).1, iv (rdepV p h).2.1, iv (rdepV p h).2.2] = rdAV (rwalkV p.hs p.hs[h.toNat].code) := by
    have : rdepV p h = match rwalkV p.hs p.hs[h.toNat].code with | some r => (r.1, r.2, 0) | none => ([], -1, 5) := by
      simp only [rdepV, e]; rw [if_neg (by omega)]
    rw [this]
    cases rwalkV p.hs p.hs[h.toNat].code <;> rfl
  rw [hd]
  have hc' := hc _ (List.getElem_mem hlt)
  have hlen := hc'.1
  simp [h0, hlt]
  generalize hcode : p.hs[h.toNat].code = code at hc' hlen ⊢
  have w1 : IntKind.i64.wrap ((code.length : Int) + 1) = (code.length : Int) + 1 := wrap_in _ (by omega) (by omega)
  have hnn : (0 : Int) ≤ (code.length : Int) + 1 := by omega
  have hby : (code.length + 1) * 8 ≤ 140737488355328 := by omega
  have htn : ((code.length : Int) + 1).toNat = code.length + 1 := by omega
  simp [w1, hnn, hby, htn]
  refine loopN (fun i S => (∃ st, S.t 2 = .ptr 38002 st 4 0 0 ∧ S.blk 38002 = some ⟨st, 4, [p.av]⟩) ∧ S.t 7 = .lst 2 (code.map Ins.av) ∧ S.t 8 = iv code.length ∧
    (∃ st, S.t 9 = .sl 38038 st 1 0 (code.length + 1) ∧ S.blk 38038 = some ⟨st, 1, List.replicate i (iv (-1)) ++ List.replicate (code.length + 1 - i) (iv 0)⟩) ∧ S.t 10 = iv i) (code.length + 1) ?_ ?_
  · simp
  · rintro i S hi ⟨⟨s2, g2, b2⟩, g7, g8, ⟨s9, g9, b9⟩, g10⟩
    by_cases hil : i < code.length + 1
    · have hle : (i : Int) ≤ code.length := by omega
      have wi := wrap_succ i _ hil (by omega)
      have hset : List.replicate i (iv (-1)) ++ (List.replicate (code.length + 1 - i) (iv 0)).set 0 (iv (-1)) = List.replicate (i + 1) (iv (-1)) ++ List.replicate (code.length - i) (iv 0) := by
        rw [show code.length + 1 - i = (code.length - i) + 1 by omega, List.replicate_succ, List.set_cons_zero, List.replicate_succ', List.append_assoc]; rfl
      have hget : (List.replicate i (iv (-1)) ++ List.replicate (code.length + 1 - i) (iv 0))[i]? = some (iv 0) := by
        rw [List.getElem?_append_right (by simp), List.length_replicate, Nat.sub_self, List.getElem?_replicate]; rw [if_pos (by omega)]
      simp [rdep_l0, g2, g7, g8, g9, g10, b2, b9, hle, hil, wi, hget, hset]
    · have hi2 : i = code.length + 1 := by omega
      subst hi2
      have hnle : ¬ ((code.length : Int) + 1 ≤ code.length) := by omega
      simp at b9 g10
      simp [rdep_l0, g2, g7, g8, g9, g10, b2, b9, hnle]
      have hw0 : WfR code.length ((List.replicate (code.length + 1) (-1)).set 0 0) := by
        refine ⟨by simp, fun x hx => ?_⟩
        rcases List.mem_or_eq_of_mem_set hx with hx | hx
        · have := List.eq_of_mem_replicate hx; omega
        · omega
      refine loopM (RO p code (rwalkV p.hs code)) (code.length + 3) ?_ ?_
      · refine ⟨(List.replicate (code.length + 1) (-1)).set 0 0, 0, true, ⟨by simp [g2, b2], by simp [g7], by simp [g8], by simp [g9, List.map_set], by simp, by simp⟩, hw0, fun _ => ⟨rfl, ?_⟩, by simp⟩
        simp [unr, List.replicate_succ, List.countP_replicate]
      · clear g2 g7 g8 g9 g10 b2 b9 hnle hw0
        rintro f S ⟨l, most, ag, ⟨⟨s2, g2, b2⟩, g7, g8, ⟨s9, g9, b9⟩, g11, g12⟩, hw, h1, h2⟩
        cases ag with
        | false =>
          have := h2 rfl
          have hl := list_ints l S.blk 38038 s9 b9
          simp [rdep_l3, g2, g7, g8, g9, g11, g12, b2, b9, ← this, rdAV, hl, ints]
        | true =>
          obtain ⟨q1, q2⟩ := h1 rfl
          obtain ⟨f, rfl⟩ : ∃ f', f = f' + 1 := ⟨f - 1, by omega⟩
          simp only [rgo] at q1
          simp [rdep_l3, g2, g7, g8, g9, g11, g12, b2, b9]
          refine rd_mid p code hc' ⟨l, most, false⟩ hw _ _ _ ⟨by simp [g2, b2], by simp [g7], by simp [g8], by simp [g9, b9], by simp [g11], by simp⟩ (by simp) ?_ ?_
          · intro s S' hs hws hB
            rw [hs] at q1
            simp only at q1
            obtain ⟨_, hun⟩ := rpass_ok hc' hs hw
            simp only at hun
            simp
            by_cases hag : s.again = true
            · rw [if_pos hag] at q1
              rcases hun with ⟨hu, _⟩ | ⟨_, hu⟩
              · rw [hag] at hu; cases hu
              · exact ⟨f, by omega, s.l, s.most, s.again, hB, hws, fun _ => ⟨q1, by omega⟩, fun q => by rw [hag] at q; cases q⟩
            · rw [if_neg hag] at q1
              exact ⟨f, by omega, s.l, s.most, s.again, hB, hws, fun q => absurd q hag, fun _ => q1⟩
          · intro S' hs h4 h5 h6
            rw [hs] at q1
            simp only at q1
            simp [← q1, rdAV, h4, h5, h6]

def rflowGo (p : Prg) : List Int → Int → Int
  | [], e => e
  | h :: l, e => if e = 0 then rflowGo p l (rdepV p h).2.2 else e
def rflowV (p : Prg) : Int := rflowGo p ((List.range p.hs.length).map fun n : Nat => (n : Int)) (checkV p)
theorem rcflow_pc (p : Prg) (hl : p.hs.length < 1000000) : PC Tryz.prog 8 [p.av] (iv (rflowV p)) := by
  refine pc_of_get rcflow_get (by simp) _ (by simp) _ ?_
  unfold rcflow_c
  simp
  refine call (rcheck_pc p) (by simp) ?_
  simp
  refine loopN (fun i S => ∃ e : Int, (e = 0 → checkV p = 0) ∧ rflowGo p ((List.range' i (p.hs.length - i)).map fun n : Nat => (n : Int)) e = rflowV p ∧ (∃ st, S.t 1 = .ptr 37001 st 4 0 0 ∧ S.blk 37001 = some ⟨st, 4, [p.av]⟩) ∧ S.t 3 = iv e ∧ S.t 4 = iv i) p.hs.length ?_ ?_
  · exact ⟨checkV p, fun h => h, by rw [rflowV, List.range_eq_range']; rfl, by simp, by simp, by simp⟩
  · rintro i S hi ⟨e, h0, hv, ⟨st, g1, b1⟩, g3, g4⟩
    by_cases hlt : i < p.hs.length
    · rw [show p.hs.length - i = (p.hs.length - (i + 1)) + 1 by omega, List.range'_succ, List.map_cons, rflowGo] at hv
      have wi := wrap_succ i _ hlt (by omega)
      simp [rcflow_l0, g1, b1, g3, g4, hlt]
      refine split (fun he => ?_) (fun he => ?_) <;> simp [he]
      · rw [if_pos he] at hv
        have hc := h0 he
        simp [g1, b1, g4]
        refine call (rdep_pc p i (fun x hx => codeOk_of hc hx)) (by simp) ?_
        simp [g4, wi]
        exact ⟨_, fun _ => hc, hv, by simp [g1, b1]⟩
      · rw [if_neg he] at hv
        simp [g3, hv]
    · have e1 : i = p.hs.length := by omega
      subst e1
      rw [Nat.sub_self] at hv
      simp [rflowGo] at hv
      simp [rcflow_l0, g1, b1, g3, g4, hv]

end Go.Gv
