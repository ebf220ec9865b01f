/- Texts of this proof, one behind the other. What is proved, and on which conditions, stands ahead of each. -/
import Derived.Test.YtpaeffcpdpblcaaGreatProg
import Derived.Test.YtpaeffcpdpblcaaGreatM18dc362a
import Derived.Test.YtpaeffcpdpblcaaGreatM12c32a5b

/- A plan asked: Made, Sends, Reaches, Arms, Live; and New. Conditions: those that each law names. -/
set_option linter.unusedVariables false
set_option linter.unusedSimpArgs false
namespace Go.Gv
open Go.Proofs

def asked_r0 : List AI := [⟨(some 4), none, (.op (.mv (.c (.bool false))))⟩]
def asked_r1 : List AI := [⟨(some 5), none, (.op (.mv (.t 0)))⟩, ⟨(some 6), none, (.nq 1 false (.t 5))⟩]
def asked_r2 : List AI := [⟨(some 4), none, (.op (.mv (.c (.bool false))))⟩]
def asked_r3 : List AI := [⟨(some 7), none, (.op (.mv (.t 0)))⟩, ⟨(some 8), none, (.op (.nilck (.t 7)))⟩, ⟨(some 9), none, (.op (.fld 4 (.t 8)))⟩, ⟨(some 10), none, (.op (.mv (.t 0)))⟩, ⟨(some 11), none, (.op .bad)⟩, ⟨(some 12), none, (.call (.c (.fn 41 [])) [(.t 9), (.t 11)])⟩]
def asked_r4 : List AI := [⟨(some 13), none, (.op (.mv (.t 1)))⟩, ⟨(some 14), none, (.op (.ibin .geq (.t 13) (.c (.int .i64 0))))⟩, ⟨(some 15), none, (.op (.mv (.t 14)))⟩, ⟨(some 16), (some (15, true)), (.op (.mv (.t 1)))⟩, ⟨(some 17), (some (15, true)), (.op (.mv (.t 0)))⟩, ⟨(some 18), (some (15, true)), (.op (.nilck (.t 17)))⟩, ⟨(some 19), (some (15, true)), (.op (.fld 0 (.t 18)))⟩, ⟨(some 20), (some (15, true)), (.op (.fld 0 (.t 19)))⟩, ⟨(some 21), (some (15, true)), (.op (.load none (.t 20)))⟩, ⟨(some 22), (some (15, true)), (.op (.len (.t 21)))⟩, ⟨(some 23), (some (15, true)), (.op (.ibin .lss (.t 16) (.t 22)))⟩, ⟨(some 24), none, (.op (.pick (.t 15) (.t 23) (.c (.bool false))))⟩, ⟨(some 4), none, (.op (.mv (.t 24)))⟩]
def asked_c : AC := (.seq (.reg asked_r0) (.seq (.seq (.reg asked_r1) (.cond (.t 6) (.seq (.reg asked_r2) .ret) .skip)) (.seq (.reg asked_r3) (.seq (.reg asked_r4) .ret))))
def asked_res : List ARes := [(.tmp 4)]
set_option maxRecDepth 100000 in
theorem asked_get : getF Tryz.prog 27 144000 [] = some ("(*gavotte/reach.Plan).asked", 25, asked_c, asked_res) := by kernel_rfl
def psends_r0 : List AI := [⟨(some 4), none, (.op (.mv (.c .nils)))⟩]
def psends_r1 : List AI := [⟨(some 5), none, (.op (.mv (.t 0)))⟩, ⟨(some 6), none, (.op (.mv (.t 1)))⟩, ⟨(some 7), none, (.call (.c (.fn 27 [])) [(.t 5), (.t 6)])⟩, ⟨(some 8), none, (.op (.not (.t 7)))⟩]
def psends_r2 : List AI := [⟨(some 4), none, (.op (.mv (.c .nils)))⟩]
def psends_r3 : List AI := [⟨(some 9), none, (.op (.mv (.t 0)))⟩, ⟨(some 10), none, (.op (.nilck (.t 9)))⟩, ⟨(some 11), none, (.op (.fld 8 (.t 10)))⟩, ⟨(some 12), none, (.op (.load none (.t 11)))⟩, ⟨(some 13), none, (.op (.mv (.t 1)))⟩, ⟨(some 14), none, (.op (.idx 1 (.t 12) (.t 13)))⟩, ⟨(some 15), none, (.op (.load none (.t 14)))⟩, ⟨(some 16), none, (.call (.c (.fn 28 [])) [(.t 15)])⟩, ⟨(some 4), none, (.op (.mv (.t 16)))⟩]
def psends_c : AC := (.seq (.reg psends_r0) (.seq (.seq (.reg psends_r1) (.cond (.t 8) (.seq (.reg psends_r2) .ret) .skip)) (.seq (.reg psends_r3) .ret)))
def psends_res : List ARes := [(.tmp 4)]
set_option maxRecDepth 100000 in
theorem psends_get : getF Tryz.prog 10 139000 [] = some ("(*gavotte/reach.Plan).Sends", 17, psends_c, psends_res) := by kernel_rfl
def preaches_r0 : List AI := [⟨(some 4), none, (.op (.mv (.c .nils)))⟩]
def preaches_r1 : List AI := [⟨(some 5), none, (.op (.mv (.t 0)))⟩, ⟨(some 6), none, (.op (.mv (.t 1)))⟩, ⟨(some 7), none, (.call (.c (.fn 27 [])) [(.t 5), (.t 6)])⟩, ⟨(some 8), none, (.op (.not (.t 7)))⟩]
def preaches_r2 : List AI := [⟨(some 4), none, (.op (.mv (.c .nils)))⟩]
def preaches_r3 : List AI := [⟨(some 9), none, (.op (.mv (.t 0)))⟩, ⟨(some 10), none, (.op (.nilck (.t 9)))⟩, ⟨(some 11), none, (.op (.fld 9 (.t 10)))⟩, ⟨(some 12), none, (.op (.load none (.t 11)))⟩, ⟨(some 13), none, (.op (.mv (.t 1)))⟩, ⟨(some 14), none, (.op (.idx 1 (.t 12) (.t 13)))⟩, ⟨(some 15), none, (.op (.load none (.t 14)))⟩, ⟨(some 16), none, (.call (.c (.fn 28 [])) [(.t 15)])⟩, ⟨(some 4), none, (.op (.mv (.t 16)))⟩]
def preaches_c : AC := (.seq (.reg preaches_r0) (.seq (.seq (.reg preaches_r1) (.cond (.t 8) (.seq (.reg preaches_r2) .ret) .skip)) (.seq (.reg preaches_r3) .ret)))
def preaches_res : List ARes := [(.tmp 4)]
set_option maxRecDepth 100000 in
theorem preaches_get : getF Tryz.prog 12 140000 [] = some ("(*gavotte/reach.Plan).Reaches", 17, preaches_c, preaches_res) := by kernel_rfl
def parms_r0 : List AI := [⟨(some 4), none, (.op (.mv (.c (.bool false))))⟩]
def parms_r1 : List AI := [⟨(some 5), none, (.op (.mv (.t 0)))⟩, ⟨(some 6), none, (.op (.mv (.t 1)))⟩, ⟨(some 7), none, (.call (.c (.fn 27 [])) [(.t 5), (.t 6)])⟩, ⟨(some 8), none, (.op (.mv (.t 7)))⟩, ⟨(some 9), (some (8, true)), (.op (.mv (.t 0)))⟩, ⟨(some 10), (some (8, true)), (.op (.nilck (.t 9)))⟩, ⟨(some 11), (some (8, true)), (.op (.fld 10 (.t 10)))⟩, ⟨(some 12), (some (8, true)), (.op (.load none (.t 11)))⟩, ⟨(some 13), (some (8, true)), (.op (.mv (.t 1)))⟩, ⟨(some 14), (some (8, true)), (.op (.idx 1 (.t 12) (.t 13)))⟩, ⟨(some 15), (some (8, true)), (.op (.load none (.t 14)))⟩, ⟨(some 16), none, (.op (.pick (.t 8) (.t 15) (.c (.bool false))))⟩, ⟨(some 4), none, (.op (.mv (.t 16)))⟩]
def parms_c : AC := (.seq (.reg parms_r0) (.seq (.reg parms_r1) .ret))
def parms_res : List ARes := [(.tmp 4)]
set_option maxRecDepth 100000 in
theorem parms_get : getF Tryz.prog 16 141000 [] = some ("(*gavotte/reach.Plan).Arms", 17, parms_c, parms_res) := by kernel_rfl
def plive_r0 : List AI := [⟨(some 2), none, (.op (.mv (.c .nils)))⟩]
def plive_r1 : List AI := [⟨(some 3), none, (.op (.mv (.t 0)))⟩, ⟨(some 4), none, (.call (.c (.fn 27 [])) [(.t 3), (.c (.int .i64 0))])⟩]
def plive_r2 : List AI := [⟨(some 5), none, (.op (.mv (.t 0)))⟩, ⟨(some 6), none, (.nq 1 false (.t 5))⟩]
def plive_r3 : List AI := [⟨(some 2), none, (.op (.mv (.c .nils)))⟩]
def plive_r4 : List AI := [⟨(some 7), none, (.op (.mv (.t 0)))⟩, ⟨(some 8), none, (.op (.nilck (.t 7)))⟩, ⟨(some 9), none, (.op (.fld 11 (.t 8)))⟩, ⟨(some 10), none, (.op (.load none (.t 9)))⟩, ⟨(some 11), none, (.call (.c (.fn 28 [])) [(.t 10)])⟩, ⟨(some 2), none, (.op (.mv (.t 11)))⟩]
def plive_c : AC := (.seq (.reg plive_r0) (.seq (.seq (.reg plive_r1) (.seq (.reg plive_r2) (.cond (.t 6) (.seq (.reg plive_r3) .ret) .skip))) (.seq (.reg plive_r4) .ret)))
def plive_res : List ARes := [(.tmp 2)]
set_option maxRecDepth 100000 in
theorem plive_get : getF Tryz.prog 14 142000 [] = some ("(*gavotte/reach.Plan).Live", 12, plive_c, plive_res) := by kernel_rfl
def pmade_r0 : List AI := [⟨(some 2), none, (.op (.mv (.c (.int .i64 0))))⟩]
def pmade_r1 : List AI := [⟨(some 3), none, (.op (.mv (.t 0)))⟩, ⟨(some 4), none, (.nq 1 false (.t 3))⟩]
def pmade_r2 : List AI := [⟨(some 2), none, (.op (.mv (.c (.int .i64 0))))⟩]
def pmade_r3 : List AI := [⟨(some 5), none, (.op (.mv (.t 0)))⟩, ⟨(some 6), none, (.op (.nilck (.t 5)))⟩, ⟨(some 7), none, (.op (.fld 7 (.t 6)))⟩, ⟨(some 8), none, (.call (.c (.fn 32 [])) [(.t 7)])⟩, ⟨(some 2), none, (.op (.mv (.t 8)))⟩]
def pmade_c : AC := (.seq (.reg pmade_r0) (.seq (.seq (.reg pmade_r1) (.cond (.t 4) (.seq (.reg pmade_r2) .ret) .skip)) (.seq (.reg pmade_r3) .ret)))
def pmade_res : List ARes := [(.tmp 2)]
set_option maxRecDepth 100000 in
theorem pmade_get : getF Tryz.prog 22 143000 [] = some ("(*gavotte/reach.Plan).Made", 9, pmade_c, pmade_res) := by kernel_rfl
def pnew_r0 : List AI := [⟨(some 1), none, (.op (.box 170001 4 (.t 0)))⟩, ⟨(some 2), none, (.op (.mv (.c .nilp)))⟩, ⟨(some 3), none, (.op (.mv (.c (.int .i64 0))))⟩]
def pnew_r1 : List AI := [⟨(some 5), none, (.op (.load (some 4) (.t 1)))⟩, ⟨(some 6), none, (.call (.c (.fn 23 [])) [(.t 5)])⟩, ⟨(some 4), none, (.op (.mv (.t 6)))⟩]
def pnew_r2 : List AI := [⟨(some 7), none, (.op (.mv (.t 4)))⟩, ⟨(some 8), none, (.op (.ibin .neq (.t 7) (.c (.int .i64 0))))⟩]
def pnew_r3 : List AI := [⟨(some 9), none, (.op (.mv (.t 4)))⟩, ⟨(some 2), none, (.op (.mv (.c .nilp)))⟩, ⟨(some 3), none, (.op (.mv (.t 9)))⟩]
def pnew_r4 : List AI := [⟨(some 10), none, (.op (.load (some 4) (.t 1)))⟩, ⟨(some 11), none, (.call (.c (.fn 24 [])) [(.t 10)])⟩, ⟨(some 12), none, (.op (.build [.nils, .nils, .nils, (.int .i64 0), (.int .u32 0), (.int .i32 0), (.int .u32 0), (.int .i64 0), .nils, .nils, .nils, .nils] [(0, (4, (.t 11)))]))⟩, ⟨(some 13), none, (.op (.box 170013 12 (.t 12)))⟩, ⟨(some 2), none, (.op (.mv (.t 13)))⟩, ⟨(some 3), none, (.op (.mv (.c (.int .i64 0))))⟩]
def pnew_c : AC := (.seq (.reg pnew_r0) (.seq (.seq (.reg pnew_r1) (.seq (.reg pnew_r2) (.cond (.t 8) (.seq (.reg pnew_r3) .ret) .skip))) (.seq (.reg pnew_r4) .ret)))
def pnew_res : List ARes := [(.tmp 2), (.tmp 3)]
set_option maxRecDepth 100000 in
theorem pnew_get : getF Tryz.prog 7 170000 [] = some ("gavotte/reach.New", 14, pnew_c, pnew_res) := by kernel_rfl
attribute [simp] asked_r0 asked_r1 asked_r2 asked_r3 asked_r4 asked_res psends_r0 psends_r1 psends_r2 psends_r3 psends_res preaches_r0 preaches_r1 preaches_r2 preaches_r3 preaches_res parms_r0 parms_r1 parms_res plive_r0 plive_r1 plive_r2 plive_r3 plive_r4 plive_res pmade_r0 pmade_r1 pmade_r2 pmade_r3 pmade_res pnew_r0 pnew_r1 pnew_r2 pnew_r3 pnew_r4 pnew_res


/-- A plan of which nothing is made. -/
def PlanF (nm st : Nat) (p : Prg) (S : St) : Prop := S.blk nm = some ⟨st, 12, [.agg (planC p 0 0 0 0 .nils .nils .nils .nils)]⟩
/-- .. of which all is. -/
def PlanM (nm st : Nat) (p : Prg) (S : St) : Prop := S.blk nm = some ⟨st, 12, [.agg (madeC p 1 0 0)]⟩
def PlanE (nm st : Nat) (p : Prg) (S : St) : Prop := PlanF nm st p S ∨ PlanM nm st p S
theorem asked_v (nm st : Nat) (hnm : LR nm = false) (p : Prg) (hp : flowV p = 0) (n : Int) {S : St} {k : AV → St → Prop} {u : Dep k} (h : PlanE nm st p S)
    (hk : ∀ S', PlanM nm st p S' → Fh (LN nm) S S' → S'.t = S.t → (PlanM nm st p S → S' = S) → k (.bool (decide (0 ≤ n) && decide (n < p.hs.length))) S') :
    CallG Tryz.prog (.fn 27 []) [.ptr nm st 12 0 0, iv n] S k u := by
  have hl : p.hs.length = (p.hs.map Hnd.av).length := by simp
  rcases h with h | h
  · rw [hl] at hk
    refine asked_first nm st (planC p 0 0 0 0 .nils .nils .nils .nils) (p.hs.map Hnd.av) rfl rfl rfl n h ?_
    refine make_v (u := .mk) nm st hnm p hp 0 (by simp [setCells, planC]) ?_
    intro S' hb hF ht
    refine ⟨rfl, madeC p 0 1 0, hb, rfl, rfl, rfl, ?_⟩
    refine hk _ (by simp [PlanM, madeC, planC, setCells]) ⟨fun n hn => ?_, fun n hn => hF.k n hn, hF.c⟩ ht (fun q => ?_)
    · show upd S'.blk nm _ n = S.blk n
      rw [upd_out hn (LN_self nm), hF.b n hn]
      exact upd_out hn (LN_self nm)
    · unfold PlanM at q; rw [h] at q; simp [planC, madeC] at q
  · rw [hl] at hk
    refine asked_again nm st (madeC p 1 0 0) (p.hs.map Hnd.av) rfl 1 (by simp) rfl n h ?_
    exact hk S h (Fh.refl _ _) rfl (fun _ => rfl)
theorem asked_nil (n : Int) {S : St} {k : AV → St → Prop} {u : Dep k} (hk : ∀ S', S'.t = S.t → S'.blk = S.blk → S'.tok = S.tok → S.clk ≤ S'.clk → k (.bool false) S') : CallG Tryz.prog (.fn 27 []) [.nilp, iv n] S k u := by
  refine callV asked_get (by simp) (by simp) ?_
  unfold asked_c
  simp
  exact hk _ rfl rfl rfl (by simp; omega)
/-- A list, or none. -/
theorem call_ints {P : Program} {fv : AV} {vals : List AV} {S : St} {k : AV → St → Prop} {u u' : Dep k} {u2 : Dep (fun r S' => ∃ xs, (r = ints xs ∨ (r = .nils ∧ xs = [])) ∧ k (ints xs) S')}
    (h : CallG P fv vals S (fun r S' => ∃ xs, (r = ints xs ∨ (r = .nils ∧ xs = [])) ∧ k (ints xs) S') u2) : CallG P fv vals S k u := by
  refine CallP.told1 (k' := fun r S' => ∃ xs, (r = ints xs ∨ (r = .nils ∧ xs = [])) ∧ k (ints xs) S') h ?_
  rintro r S' ⟨xs, hr, hkx⟩
  refine ⟨ints xs, S', fun E B w H hu => ⟨E, .refl E, H, fun _ _ _ => rfl, fun _ q => q, fun v hv => ?_⟩, Nat.le_refl _, rfl, hkx⟩
  rcases hr with rfl | ⟨rfl, rfl⟩
  · exact hv
  · exact hv.lst_of_nils
def rngP (p : Prg) (n : Int) : Bool := decide (0 ≤ n) && decide (n < p.hs.length)
theorem rngP_iff {p : Prg} {n : Int} : rngP p n = true ↔ 0 ≤ n ∧ n < p.hs.length := by simp [rngP]
theorem rngP_not {p : Prg} {n : Int} : rngP p n = false ↔ ¬ (0 ≤ n ∧ n < p.hs.length) := by rw [← rngP_iff]; simp
/-- What is told of a handler: nothing of one that there is not. -/
def atI (l : List (List Int)) (n : Int) : List Int := if 0 ≤ n then (l[n.toNat]?).getD [] else []
def atB (l : List Bool) (n : Int) : Bool := if 0 ≤ n then (l[n.toNat]?).getD false else false
theorem sndV_bound {p : Prg} (h : flowV p = 0) : ∀ s ∈ sndV p, s.length ≤ 64 := by
  intro s hs
  obtain ⟨i, h1, rfl⟩ := List.mem_map.1 hs
  exact send1_len h (List.mem_range.1 h1)
theorem reaV_bound {p : Prg} (h : flowV p = 0) : ∀ s ∈ reaV p, s.length ≤ 16 := by
  intro s hs
  obtain ⟨l, _, rfl⟩ := List.mem_map.1 hs
  have := closedV_len (sndV p) l
  obtain ⟨c1, _⟩ := checkV_zero (flowV_check h)
  rw [sndV_len] at this; omega
theorem reaV_len (p : Prg) : (reaV p).length = p.hs.length := by simp [reaV, sndV_len]
theorem madeC8 (p : Prg) (a b c : Int) : (madeC p a b c)[8]? = some (.lst 1 ((sndV p).map ints)) := rfl
theorem madeC9 (p : Prg) (a b c : Int) : (madeC p a b c)[9]? = some (.lst 1 ((reaV p).map ints)) := rfl
theorem madeC10 (p : Prg) (a b c : Int) : (madeC p a b c)[10]? = some (.lst 1 ((armsV p).map AV.bool)) := rfl
theorem madeC11 (p : Prg) (a b c : Int) : (madeC p a b c)[11]? = some (ints (liveV p (sndV p) (armsV p))) := rfl
theorem psends_v (nm st : Nat) (hnm : LR nm = false) (p : Prg) (hp : flowV p = 0) (n : Int) {S : St} {k : AV → St → Prop} {u : Dep k} (h : PlanE nm st p S)
    (hk : ∀ S', PlanM nm st p S' → Fh (LN nm) S S' → S'.t = S.t → (PlanM nm st p S → S'.blk = S.blk ∧ S'.tok = S.tok) → k (ints (atI (sndV p) n)) S') :
    CallG Tryz.prog (.fn 10 []) [.ptr nm st 12 0 0, iv n] S k u := by
  refine call_ints (u' := .mk) (u2 := .mk) (callV psends_get (by simp) (by simp) ?_)
  unfold psends_c
  simp
  refine asked_v nm st hnm p hp n h ?_
  intro S1 h1 hF ht he
  cases hr : rngP p n with
  | true =>
    obtain ⟨r0, r1⟩ := rngP_iff.1 hr
    have hlt : n.toNat < (sndV p).length := by rw [sndV_len]; omega
    have e : atI (sndV p) n = (sndV p)[n.toNat] := by simp [atI, r0, hlt]
    have h2 := h1
    unfold PlanM at h1
    simp [ht, r0, r1, h1, madeC8, hlt]
    refine call (cloneInts_pc (sndV p)[n.toNat] (by have := sndV_bound hp _ (List.getElem_mem hlt); omega)) (by simp [ints]) ?_
    simp
    refine ⟨(sndV p)[n.toNat], rfl, ?_⟩
    rw [← e]
    exact hk _ h2 ⟨fun n hn => hF.b n hn, fun n hn => hF.k n hn, by have := hF.c; simp at this ⊢; omega⟩ rfl (fun q => by have e1 := he q; rw [e1]; exact ⟨rfl, rfl⟩)
  | false =>
    have r0 := rngP_not.1 hr
    have hr' : (decide (0 ≤ n) && decide (n < (p.hs.length : Int))) = false := hr
    have e : atI (sndV p) n = [] := by
      unfold atI
      split
      · rw [List.getElem?_eq_none (by rw [sndV_len]; omega)]; rfl
      · rfl
    rw [hr']
    simp [ht]
    rw [← e]
    exact hk _ h1 ⟨fun n hn => hF.b n hn, fun n hn => hF.k n hn, by have := hF.c; simp at this ⊢; omega⟩ rfl (fun q => by have e1 := he q; rw [e1]; exact ⟨rfl, rfl⟩)
theorem preaches_v (nm st : Nat) (hnm : LR nm = false) (p : Prg) (hp : flowV p = 0) (n : Int) {S : St} {k : AV → St → Prop} {u : Dep k} (h : PlanE nm st p S)
    (hk : ∀ S', PlanM nm st p S' → Fh (LN nm) S S' → S'.t = S.t → (PlanM nm st p S → S'.blk = S.blk ∧ S'.tok = S.tok) → k (ints (atI (reaV p) n)) S') :
    CallG Tryz.prog (.fn 12 []) [.ptr nm st 12 0 0, iv n] S k u := by
  refine call_ints (u' := .mk) (u2 := .mk) (callV preaches_get (by simp) (by simp) ?_)
  unfold preaches_c
  simp
  refine asked_v nm st hnm p hp n h ?_
  intro S1 h1 hF ht he
  cases hr : rngP p n with
  | true =>
    obtain ⟨r0, r1⟩ := rngP_iff.1 hr
    have hlt : n.toNat < (reaV p).length := by rw [reaV_len]; omega
    have e : atI (reaV p) n = (reaV p)[n.toNat] := by simp [atI, r0, hlt]
    have h2 := h1
    unfold PlanM at h1
    simp [ht, r0, r1, h1, madeC9, hlt]
    refine call (cloneInts_pc (reaV p)[n.toNat] (by have := reaV_bound hp _ (List.getElem_mem hlt); omega)) (by simp [ints]) ?_
    simp
    refine ⟨(reaV p)[n.toNat], rfl, ?_⟩
    rw [← e]
    exact hk _ h2 ⟨fun n hn => hF.b n hn, fun n hn => hF.k n hn, by have := hF.c; simp at this ⊢; omega⟩ rfl (fun q => by have e1 := he q; rw [e1]; exact ⟨rfl, rfl⟩)
  | false =>
    have r0 := rngP_not.1 hr
    have hr' : (decide (0 ≤ n) && decide (n < (p.hs.length : Int))) = false := hr
    have e : atI (reaV p) n = [] := by
      unfold atI
      split
      · rw [List.getElem?_eq_none (by rw [reaV_len]; omega)]; rfl
      · rfl
    rw [hr']
    simp [ht]
    rw [← e]
    exact hk _ h1 ⟨fun n hn => hF.b n hn, fun n hn => hF.k n hn, by have := hF.c; simp at this ⊢; omega⟩ rfl (fun q => by have e1 := he q; rw [e1]; exact ⟨rfl, rfl⟩)
theorem parms_v (nm st : Nat) (hnm : LR nm = false) (p : Prg) (hp : flowV p = 0) (n : Int) {S : St} {k : AV → St → Prop} {u : Dep k} (h : PlanE nm st p S)
    (hk : ∀ S', PlanM nm st p S' → Fh (LN nm) S S' → S'.t = S.t → (PlanM nm st p S → S'.blk = S.blk ∧ S'.tok = S.tok) → k (.bool (atB (armsV p) n)) S') :
    CallG Tryz.prog (.fn 16 []) [.ptr nm st 12 0 0, iv n] S k u := by
  refine callV parms_get (by simp) (by simp) ?_
  unfold parms_c
  simp
  refine asked_v nm st hnm p hp n h ?_
  intro S1 h1 hF ht he
  cases hr : rngP p n with
  | true =>
    obtain ⟨r0, r1⟩ := rngP_iff.1 hr
    have hlt : n.toNat < (armsV p).length := by rw [armsV_len]; omega
    have e : atB (armsV p) n = (armsV p)[n.toNat] := by simp [atB, r0, hlt]
    have h2 := h1
    unfold PlanM at h1
    simp [ht, r0, r1, h1, madeC10, hlt]
    rw [← e]
    exact hk _ h2 ⟨fun n hn => hF.b n hn, fun n hn => hF.k n hn, by have := hF.c; simp at this ⊢; omega⟩ rfl (fun q => by have e1 := he q; rw [e1]; exact ⟨rfl, rfl⟩)
  | false =>
    have r0 := rngP_not.1 hr
    have hr' : (decide (0 ≤ n) && decide (n < (p.hs.length : Int))) = false := hr
    have e : atB (armsV p) n = false := by
      unfold atB
      split
      · rw [List.getElem?_eq_none (by rw [armsV_len]; omega)]; rfl
      · rfl
    rw [hr']
    simp [ht]
    rw [e] at hk
    exact hk _ h1 ⟨fun n hn => hF.b n hn, fun n hn => hF.k n hn, by have := hF.c; simp at this ⊢; omega⟩ rfl (fun q => by have e1 := he q; rw [e1]; exact ⟨rfl, rfl⟩)
def liveP (p : Prg) : List Int := liveV p (sndV p) (armsV p)
theorem liveP_len (p : Prg) : (liveP p).length ≤ p.hs.length := by rw [← sndV_len p]; exact closedV_len _ _
theorem plive_v (nm st : Nat) (hnm : LR nm = false) (p : Prg) (hp : flowV p = 0) {S : St} {k : AV → St → Prop} {u : Dep k} (h : PlanE nm st p S)
    (hk : ∀ S', PlanM nm st p S' → Fh (LN nm) S S' → S'.t = S.t → (PlanM nm st p S → S'.blk = S.blk ∧ S'.tok = S.tok) → k (ints (liveP p)) S') :
    CallG Tryz.prog (.fn 14 []) [.ptr nm st 12 0 0] S k u := by
  obtain ⟨c1, _⟩ := checkV_zero (flowV_check hp)
  have hll := liveP_len p
  refine callV plive_get (by simp) (by simp) ?_
  unfold plive_c
  simp
  refine asked_v nm st hnm p hp 0 h ?_
  intro S1 h1 hF ht he
  have h2 := h1
  unfold PlanM at h1
  simp [ht, h1, madeC11]
  refine call (cloneInts_pc (liveP p) (by omega)) (by simp [ints, liveP]) ?_
  simp
  exact hk _ h2 ⟨fun n hn => hF.b n hn, fun n hn => hF.k n hn, by have := hF.c; simp at this ⊢; omega⟩ rfl (fun q => by have e1 := he q; rw [e1]; exact ⟨rfl, rfl⟩)
theorem plive_nil {S : St} {k : AV → St → Prop} {u : Dep k} (hk : ∀ S', S'.t = S.t → S'.blk = S.blk → S'.tok = S.tok → S.clk ≤ S'.clk → k .nils S') : CallG Tryz.prog (.fn 14 []) [.nilp] S k u := by
  refine callV plive_get (by simp) (by simp) ?_
  unfold plive_c
  simp
  refine asked_nil 0 ?_
  intro S1 a b c d
  simp [a]
  exact hk _ rfl b c (by simp at d ⊢; omega)
theorem pmade_v (nm st : Nat) (p : Prg) {S : St} {k : AV → St → Prop} {u : Dep k} (h : PlanE nm st p S)
    (hk : ∀ S', S'.t = S.t → S'.blk = S.blk → S'.tok = S.tok → S.clk ≤ S'.clk → (PlanF nm st p S → k (iv 0) S') ∧ (PlanM nm st p S → k (iv 1) S')) :
    CallG Tryz.prog (.fn 22 []) [.ptr nm st 12 0 0] S k u := by
  refine callV pmade_get (by simp) (by simp) ?_
  unfold pmade_c
  simp
  rcases h with h | h
  · refine load64_v nm st 12 7 (by simp) _ 0 h rfl ?_
    simp
    exact (hk ⟨S.t, S.blk, S.tok, S.clk + 1 + 2 + 5⟩ rfl rfl rfl (by simp; omega)).1 h
  · refine load64_v nm st 12 7 (by simp) _ 1 h rfl ?_
    simp
    exact (hk ⟨S.t, S.blk, S.tok, S.clk + 1 + 2 + 5⟩ rfl rfl rfl (by simp; omega)).2 h
theorem pmade_nil {S : St} {k : AV → St → Prop} {u : Dep k} (hk : ∀ S', S'.t = S.t → S'.blk = S.blk → S'.tok = S.tok → S.clk ≤ S'.clk → k (iv 0) S') : CallG Tryz.prog (.fn 22 []) [.nilp] S k u := by
  refine callV pmade_get (by simp) (by simp) ?_
  unfold pmade_c
  simp
  exact hk _ rfl rfl rfl (by simp; omega)
theorem fitP_of {p : Prg} (h : checkV p = 0) : fitP p := by
  obtain ⟨c1, c2, c3, c4, c5, c6, c7, c8, c9⟩ := checkV_zero h
  refine ⟨by omega, by omega, by omega, fun x hx => ?_, fun a ha => ?_, fun n hn => ?_⟩
  · have := (handlerV_zero (c7 x hx)).2.2.1; omega
  · have := c8 a ha
    unfold actorV at this
    split at this
    · omega
    · omega
  · have := c9 n hn
    unfold noteV at this
    split at this
    · omega
    · rename_i q
      split at this
      · omega
      · rename_i q2
        have hl : n.hd.toNat < p.hs.length := by omega
        rw [List.getElem?_eq_getElem hl] at q2
        simp only [Option.map_some, Option.getD_some] at q2
        have := handlerV_zero (c7 _ (List.getElem_mem hl))
        omega
theorem pnew_v (p : Prg) {S : St} {k : AV → St → Prop} {u : Dep k}
    (h1 : flowV p = 0 → ∀ S' st, PlanF 170013 st p S' → (∀ n, n ≠ 170001 → n ≠ 170013 → S'.blk n = S.blk n) → S'.tok = S.tok → S'.t = S.t → S.clk ≤ S'.clk → k (.tup [.ptr 170013 st 12 0 0, iv 0]) S')
    (h2 : flowV p ≠ 0 → ∀ S', (∀ n, n ≠ 170001 → S'.blk n = S.blk n) → S'.tok = S.tok → S'.t = S.t → S.clk ≤ S'.clk → k (.tup [.nilp, iv (flowV p)]) S') :
    CallG Tryz.prog (.fn 7 []) [p.av] S k u := by
  refine callV pnew_get (by simp) (by simp) ?_
  unfold pnew_c
  simp [Prg.av]
  refine call (fcheck_pc p) (by simp [Prg.av]) ?_
  by_cases hf : flowV p = 0
  · simp [hf, Prg.av]
    refine call (copy_pc p (fitP_of (flowV_check hf))) (by simp [Prg.av]) ?_
    simp [Prg.av]
    refine h1 hf _ _ (by simp [PlanF, planC]) (fun n a b => by simp [a, b]) rfl rfl (by simp; omega)
  · simp [hf]
    exact h2 hf _ (fun n a => by simp [a]) rfl rfl (by simp; omega)

end Go.Gv

/- Plain laws of what is reached. Conditions: those that each law names. -/
set_option linter.unusedVariables false
set_option linter.unusedSimpArgs false
namespace Go.Gv
open Go.Proofs


/-- What comes of some by what each one sends. -/
inductive Rea (snd : List (List Int)) (l : List Int) : Int → Prop
  | base {x : Int} (h : x ∈ l) : Rea snd l x
  | step {x y : Int} (h : Rea snd l y) (hx : x ∈ sndOf snd y) : Rea snd l x
theorem sndOf_in {snd : List (List Int)} (hs : ∀ s ∈ snd, InN snd.length s) (y : Int) : InN snd.length (sndOf snd y) := by
  intro x hx
  unfold sndOf at hx
  cases h : snd[y.toNat]? with
  | none => rw [h] at hx; simp at hx
  | some s => rw [h] at hx; exact hs s (List.mem_of_getElem? h) x hx
theorem Rea.rng {snd : List (List Int)} (hs : ∀ s ∈ snd, InN snd.length s) {l : List Int} (hl : InN snd.length l) {x : Int} (h : Rea snd l x) : 0 ≤ x ∧ x < snd.length := by
  induction h with
  | base h => exact hl _ h
  | step _ hx _ => exact sndOf_in hs _ _ hx
theorem Rea.trans {snd : List (List Int)} {l m : List Int} (hm : ∀ y ∈ m, Rea snd l y) {x : Int} (h : Rea snd m x) : Rea snd l x := by
  induction h with
  | base h => exact hm _ h
  | step _ hx ih => exact .step ih hx
theorem clGo_spec {snd : List (List Int)} (hs : ∀ s ∈ snd, InN snd.length s) : ∀ (f : Nat) (met l : List Int), mea snd met l = f → InN snd.length l →
    (∀ x ∈ met, x ∈ clGo snd f met l) ∧ (∀ x ∈ l, x ∈ clGo snd f met l) ∧ (∀ x ∈ clGo snd f met l, x ∈ met ∨ Rea snd l x) ∧
    ((∀ y ∈ met, ∀ z ∈ sndOf snd y, z ∈ met ∨ z ∈ l) → ∀ y ∈ clGo snd f met l, ∀ z ∈ sndOf snd y, z ∈ clGo snd f met l) := by
  intro f
  induction f with
  | zero =>
    intro met l hm hl
    have h0 : l = [] := by
      have : l.length = 0 := by unfold mea at hm; omega
      exact List.eq_nil_of_length_eq_zero this
    subst h0
    refine ⟨fun x hx => hx, by simp, fun x hx => .inl hx, fun h y hy z hz => ?_⟩
    rcases h y hy z hz with q | q
    · exact q
    · cases q
  | succ f ih =>
    intro met l hm hl
    cases l with
    | nil =>
      refine ⟨fun x hx => hx, by simp, fun x hx => .inl hx, fun h y hy z hz => ?_⟩
      rcases h y hy z hz with q | q
      · exact q
      · cases q
    | cons h l =>
      obtain ⟨h0, h1⟩ := hl h (by simp)
      have hl2 : InN snd.length l := fun x hx => hl x (by simp [hx])
      by_cases hin : h ∈ met
      · have e : clGo snd (f + 1) met (h :: l) = clGo snd f met l := by simp [clGo, hin]
        have hm2 : mea snd met l = f := by simp [mea] at hm ⊢; omega
        obtain ⟨a1, a2, a3, a4⟩ := ih met l hm2 hl2
        rw [e]
        refine ⟨a1, fun x hx => ?_, fun x hx => ?_, fun hc => a4 (fun y hy z hz => ?_)⟩
        · rcases List.mem_cons.1 hx with q | q
          · rw [q]; exact a1 h hin
          · exact a2 x q
        · rcases a3 x hx with q | q
          · exact .inl q
          · exact .inr (q.trans (fun y hy => .base (by simp [hy])))
        · rcases hc y hy z hz with q | q
          · exact .inl q
          · rcases List.mem_cons.1 q with r | r
            · rw [r]; exact .inl hin
            · exact .inr r
      · have e : clGo snd (f + 1) met (h :: l) = clGo snd f (met ++ [h]) (l ++ sndOf snd h) := by simp [clGo, hin]
        have hlt : h.toNat < snd.length := by omega
        have hs' : sndOf snd h = snd[h.toNat] := by simp [sndOf, hlt]
        have hm2 : mea snd (met ++ [h]) (l ++ sndOf snd h) = f := by
          have := unm_in met h.toNat (by rw [Int.toNat_of_nonneg h0]; exact hin) snd 0 (Nat.zero_le _) (by simpa using hlt)
          rw [Int.toNat_of_nonneg h0] at this
          simp only [Nat.sub_zero] at this
          rw [hs']
          simp only [mea, List.length_append, List.length_cons] at hm ⊢
          omega
        have hl3 : InN snd.length (l ++ sndOf snd h) := by
          intro x hx
          rcases List.mem_append.1 hx with q | q
          · exact hl2 x q
          · exact sndOf_in hs h x q
        obtain ⟨a1, a2, a3, a4⟩ := ih (met ++ [h]) (l ++ sndOf snd h) hm2 hl3
        rw [e]
        refine ⟨fun x hx => a1 x (by simp [hx]), fun x hx => ?_, fun x hx => ?_, fun hc => a4 (fun y hy z hz => ?_)⟩
        · rcases List.mem_cons.1 hx with q | q
          · rw [q]; exact a1 h (by simp)
          · exact a2 x (by simp [q])
        · rcases a3 x hx with q | q
          · rcases List.mem_append.1 q with r | r
            · exact .inl r
            · rw [List.mem_singleton.1 r]; exact .inr (.base (by simp))
          · refine .inr (q.trans (fun y hy => ?_))
            rcases List.mem_append.1 hy with r | r
            · exact .base (by simp [r])
            · exact .step (.base (by simp)) r
        · rcases List.mem_append.1 hy with q | q
          · rcases hc y q z hz with r | r
            · exact .inl (by simp [r])
            · rcases List.mem_cons.1 r with t | t
              · rw [t]; exact .inl (by simp)
              · exact .inr (by simp [t])
          · rw [List.mem_singleton.1 q] at hz
            exact .inr (by simp [hz])
theorem reachV_mem {snd : List (List Int)} (hs : ∀ s ∈ snd, InN snd.length s) {l : List Int} (hl : InN snd.length l) (x : Int) : x ∈ reachV snd l ↔ Rea snd l x := by
  obtain ⟨a1, a2, a3, a4⟩ := clGo_spec hs (mea snd [] l) [] l rfl hl
  have hcl := a4 (by simp)
  refine ⟨fun h => ?_, fun h => ?_⟩
  · rcases a3 x h with q | q
    · cases q
    · exact q
  · induction h with
    | base h => exact a2 _ h
    | step _ hx ih => exact hcl _ ih _ hx
theorem closedV_mem {snd : List (List Int)} (hs : ∀ s ∈ snd, InN snd.length s) {l : List Int} (hl : InN snd.length l) (x : Int) : x ∈ closedV snd l ↔ Rea snd l x := by
  unfold closedV
  rw [List.mem_filter, decide_eq_true_iff, reachV_mem hs hl]
  refine ⟨fun h => h.2, fun h => ⟨?_, h⟩⟩
  obtain ⟨h0, h1⟩ := h.rng hs hl
  exact List.mem_map.2 ⟨x.toNat, List.mem_range.2 (by omega), by omega⟩
theorem range_up (n : Nat) : Up ((List.range n).map fun n : Nat => (n : Int)) := by
  unfold Up
  rw [List.pairwise_map]
  exact List.pairwise_lt_range.imp (by intro a b h; omega)
theorem closedV_up (snd : List (List Int)) (l : List Int) : Up (closedV snd l) := by
  unfold closedV
  exact (range_up _).filter _
theorem atI_in {p : Prg} {n : Int} {l : List (List Int)} {s : List Int} (h : atI l n = s) (hs : s ≠ []) : 0 ≤ n ∧ n.toNat < l.length ∧ l[n.toNat]? = some s := by
  unfold atI at h
  split at h
  · rename_i h0
    cases hq : l[n.toNat]? with
    | none => rw [hq] at h; exact absurd h.symm hs
    | some t => rw [hq] at h; simp at h; subst h; exact ⟨h0, (List.getElem?_eq_some_iff.1 hq).1, rfl⟩
  · exact absurd h.symm hs
/-- What is put together of all that a handler sends. -/
def wantL (rea : List (List Int)) (s : List Int) : List Int := s.foldl (fun w x => putL (put1 w x) (atI rea x)) []
theorem wantL_succ (rea : List (List Int)) (s : List Int) (i : Nat) (h : i < s.length) : wantL rea (s.take (i + 1)) = putL (put1 (wantL rea (s.take i)) s[i]) (atI rea s[i]) := by
  rw [List.take_succ_eq_append_getElem h, wantL, List.foldl_append]; rfl
theorem wantL_spec (rea : List (List Int)) : ∀ (s w : List Int), Up w → Up (s.foldl (fun w x => putL (put1 w x) (atI rea x)) w) ∧ ∀ y, y ∈ s.foldl (fun w x => putL (put1 w x) (atI rea x)) w ↔ y ∈ w ∨ ∃ x ∈ s, y = x ∨ y ∈ atI rea x
  | [], w, hw => ⟨hw, by simp⟩
  | x :: s, w, hw => by
    obtain ⟨a1, a2⟩ := wantL_spec rea s (putL (put1 w x) (atI rea x)) (putL_up (put1_up hw))
    refine ⟨a1, fun y => ?_⟩
    simp only [List.foldl_cons]
    rw [a2 y, putL_mem, put1_mem]
    simp only [List.mem_cons, exists_eq_or_imp]
    constructor
    · rintro (((q | q) | q) | q) <;> simp [q]
    · rintro (q | (q | q) | q) <;> simp [q]
theorem reaV_at (p : Prg) (n : Int) : atI (reaV p) n = if 0 ≤ n ∧ n < p.hs.length then closedV (sndV p) (atI (sndV p) n) else [] := by
  unfold atI
  by_cases h0 : 0 ≤ n
  · by_cases h1 : n < p.hs.length
    · rw [if_pos h0, if_pos ⟨h0, h1⟩, if_pos h0]
      have h2 : n.toNat < (sndV p).length := by rw [sndV_len]; omega
      simp [reaV, h2]
    · rw [if_pos h0, if_neg (fun q => h1 q.2), List.getElem?_eq_none (by rw [reaV_len]; omega)]; rfl
  · rw [if_neg h0, if_neg (fun q => h0 q.1)]
theorem sndV_at (p : Prg) (n : Int) (h : 0 ≤ n ∧ n < p.hs.length) : atI (sndV p) n = sndOf (sndV p) n := by
  unfold atI sndOf; rw [if_pos h.1]
theorem sndV_out (p : Prg) (n : Int) (h : ¬ (0 ≤ n ∧ n < p.hs.length)) : atI (sndV p) n = [] := by
  unfold atI
  split
  · rw [List.getElem?_eq_none (by rw [sndV_len]; omega)]; rfl
  · rfl
/-- What may come of a handler: what it may send, and what may come of that. -/
theorem paths_law {p : Prg} (hp : flowV p = 0) (n : Int) : atI (reaV p) n = wantL (reaV p) (atI (sndV p) n) := by
  have hs := sndV_in hp
  obtain ⟨w1, w2⟩ := wantL_spec (reaV p) (atI (sndV p) n) [] (by simp [Up])
  by_cases h : 0 ≤ n ∧ n < p.hs.length
  · rw [reaV_at, if_pos h]
    refine Up.ext (closedV_up _ _) w1 (fun x => ?_)
    have hin : InN (sndV p).length (atI (sndV p) n) := by rw [sndV_at p n h]; exact sndOf_in hs n
    rw [closedV_mem hs hin, wantL, w2 x]
    simp only [List.not_mem_nil, false_or]
    constructor
    · intro q
      induction q with
      | base q => exact ⟨_, q, .inl rfl⟩
      | @step x y _ hx ih =>
        obtain ⟨z, hz, e | e⟩ := ih
        · subst e
          refine ⟨y, hz, .inr ?_⟩
          have hy := hin y hz
          rw [sndV_len] at hy
          rw [reaV_at, if_pos hy, closedV_mem hs (by rw [sndV_at p y hy]; exact sndOf_in hs y)]
          exact .base (by rw [sndV_at p y hy]; exact hx)
        · refine ⟨z, hz, .inr ?_⟩
          have hy := hin z hz
          rw [sndV_len] at hy
          rw [reaV_at, if_pos hy, closedV_mem hs (by rw [sndV_at p z hy]; exact sndOf_in hs z)] at e ⊢
          exact .step e hx
    · rintro ⟨z, hz, e | e⟩
      · rw [e]; exact .base hz
      · have hy := hin z hz
        rw [sndV_len] at hy
        rw [reaV_at, if_pos hy, closedV_mem hs (by rw [sndV_at p z hy]; exact sndOf_in hs z)] at e
        refine e.trans (fun y hy2 => .step (.base hz) (by rw [← sndV_at p z hy]; exact hy2))
  · rw [reaV_at, if_neg h, sndV_out p n h]; rfl
/-- What is live holds what comes of it. -/
theorem live_closed {p : Prg} (hp : flowV p = 0) {x y : Int} (hx : x ∈ liveP p) (hy : y ∈ atI (reaV p) x) : y ∈ liveP p := by
  have hs := sndV_in hp
  have hl2 := live2_in (flowV_check hp) (sndV_len p).symm (armsV p)
  have hr := closedV_in (sndV p) (live2 p (sndV p) (armsV p)) x hx
  rw [sndV_len] at hr
  unfold liveP liveV at hx ⊢
  rw [closedV_mem hs hl2] at hx ⊢
  rw [reaV_at, if_pos hr, closedV_mem hs (by rw [sndV_at p x hr]; exact sndOf_in hs x)] at hy
  exact hy.trans (fun z hz => .step hx (by rw [← sndV_at p x hr]; exact hz))
theorem live_boot {p : Prg} (hp : flowV p = 0) {n : Nt} (hn : n ∈ p.boot) : n.hd ∈ liveP p := by
  have hs := sndV_in hp
  have hc := flowV_check hp
  have hl2 := live2_in hc (sndV_len p).symm (armsV p)
  have hf : InN (sndV p).length (firstV p) := by rw [sndV_len]; exact first_in hc
  unfold liveP liveV
  rw [closedV_mem hs hl2]
  refine .base ?_
  have : n.hd ∈ closedV (sndV p) (firstV p) := (closedV_mem hs hf _).2 (.base (List.mem_append.2 (.inl (List.mem_map.2 ⟨n, hn, rfl⟩))))
  unfold live2
  split
  · exact List.mem_append.2 (.inl this)
  · exact this

end Go.Gv

/- Plain laws: what is reached, and what is live, is told by what it holds. Conditions: those that each law names. -/
set_option linter.unusedVariables false
set_option linter.unusedSimpArgs false
namespace Go.Gv
open Go.Proofs


theorem rea_unique {p : Prg} (hp : flowV p = 0) {h : Int} (hh : 0 ≤ h ∧ h < p.hs.length) {R : List Int} (up : Up R) (h1 : ∀ x ∈ atI (sndV p) h, x ∈ R) (h2 : ∀ y ∈ R, ∀ z ∈ atI (sndV p) y, z ∈ R) (h3 : ∀ x ∈ R, Rea (sndV p) (atI (sndV p) h) x) : R = atI (reaV p) h := by
  have hs := sndV_in hp
  have hin : InN (sndV p).length (atI (sndV p) h) := by rw [sndV_at p h hh]; exact sndOf_in hs h
  rw [reaV_at, if_pos hh]
  refine Up.ext up (closedV_up _ _) (fun x => ?_)
  rw [closedV_mem hs hin]
  refine ⟨h3 x, fun q => ?_⟩
  induction q with
  | base q => exact h1 _ q
  | @step x y hy hx ih =>
    refine h2 y ih x ?_
    have hr := hy.rng hs hin
    rw [sndV_len] at hr
    rw [sndV_at p y hr]; exact hx
theorem Rea.of_send {p : Prg} (hp : flowV p = 0) {l : List Int} (hl : InN (sndV p).length l) {x y : Int} (h : Rea (sndV p) l y) (hx : x ∈ atI (sndV p) y) : Rea (sndV p) l x := by
  have hr := h.rng (sndV_in hp) hl
  rw [sndV_len] at hr
  rw [sndV_at p y hr] at hx
  exact .step h hx
theorem live_first {p : Prg} (hp : flowV p = 0) {x : Int} (hx : x ∈ firstV p) : x ∈ liveP p := by
  have hs := sndV_in hp
  have hc := flowV_check hp
  have hl2 := live2_in hc (sndV_len p).symm (armsV p)
  have hf : InN (sndV p).length (firstV p) := by rw [sndV_len]; exact first_in hc
  unfold liveP liveV
  rw [closedV_mem hs hl2]
  refine .base ?_
  have : x ∈ closedV (sndV p) (firstV p) := (closedV_mem hs hf _).2 (.base hx)
  unfold live2
  split
  · exact List.mem_append.2 (.inl this)
  · exact this
theorem live_in {p : Prg} : InN p.hs.length (liveP p) := by
  intro x hx
  have := closedV_in (sndV p) (live2 p (sndV p) (armsV p)) x hx
  rw [sndV_len] at this; exact this
/-- Where something live may arm the timers' handlers are live. -/
theorem live_timers {p : Prg} (hp : flowV p = 0) {x t : Int} (hx : x ∈ liveP p) (ha : armAt (armsV p) x = true) (ht : t ∈ timersV p) : t ∈ liveP p := by
  have hs := sndV_in hp
  have hc := flowV_check hp
  have hl2 := live2_in hc (sndV_len p).symm (armsV p)
  have hf : InN (sndV p).length (firstV p) := by rw [sndV_len]; exact first_in hc
  have hany : (closedV (sndV p) (firstV p)).any (armAt (armsV p)) = true := by
    cases hq : (closedV (sndV p) (firstV p)).any (armAt (armsV p)) with
    | true => rfl
    | false =>
      have e : live2 p (sndV p) (armsV p) = closedV (sndV p) (firstV p) := by unfold live2; rw [if_neg (by rw [hq]; simp)]
      have hx2 : x ∈ closedV (sndV p) (firstV p) := by
        unfold liveP liveV at hx
        rw [e, closedV_mem hs (closedV_in _ _)] at hx
        rw [closedV_mem hs hf]
        exact hx.trans (fun y hy => (closedV_mem hs hf y).1 hy)
      exact hq.symm.trans (List.any_eq_true.2 ⟨x, hx2, ha⟩)
  unfold liveP liveV
  rw [closedV_mem hs hl2]
  refine .base ?_
  unfold live2
  rw [if_pos hany]
  exact List.mem_append.2 (.inr ht)
theorem live_unique {p : Prg} (hp : flowV p = 0) {L : List Int} (up : Up L) (h1 : ∀ x ∈ firstV p, x ∈ L) (h2 : ∀ y ∈ L, ∀ z ∈ atI (reaV p) y, z ∈ L) (h3 : ∀ x ∈ L, armAt (armsV p) x = true → ∀ t ∈ timersV p, t ∈ L) (h4 : ∀ x ∈ L, x ∈ liveP p) : L = liveP p := by
  have hs := sndV_in hp
  have hc := flowV_check hp
  have hl2 := live2_in hc (sndV_len p).symm (armsV p)
  have hf : InN (sndV p).length (firstV p) := by rw [sndV_len]; exact first_in hc
  refine Up.ext up (by unfold liveP liveV; exact closedV_up _ _) (fun x => ⟨h4 x, fun hx => ?_⟩)
  have cl : ∀ l : List Int, InN (sndV p).length l → (∀ y ∈ l, y ∈ L) → ∀ y, Rea (sndV p) l y → y ∈ L := by
    intro l hl hsub y hy
    induction hy with
    | base q => exact hsub _ q
    | @step x y hy hx ih =>
      have hr := hy.rng hs hl
      rw [sndV_len] at hr
      refine h2 y ih x ?_
      rw [reaV_at, if_pos hr, closedV_mem hs (by rw [sndV_at p y hr]; exact sndOf_in hs y)]
      exact .base (by rw [sndV_at p y hr]; exact hx)
  have c1 : ∀ y ∈ closedV (sndV p) (firstV p), y ∈ L := fun y hy => cl _ hf h1 y ((closedV_mem hs hf y).1 hy)
  unfold liveP liveV at hx
  rw [closedV_mem hs hl2] at hx
  refine cl _ hl2 (fun y hy => ?_) x hx
  unfold live2 at hy
  split at hy
  · rename_i hany
    rcases List.mem_append.1 hy with q | q
    · exact c1 y q
    · obtain ⟨z, z1, z2⟩ := List.any_eq_true.1 hany
      exact h3 z (c1 z z1) z2 y q
  · exact c1 y hy
theorem atB_arm (l : List Bool) (n : Int) (h : 0 ≤ n) : atB l n = armAt l n := by unfold atB armAt; rw [if_pos h]
theorem putL_grow {l m : List Int} (h : (putL l m).length ≤ l.length) (hl : Up l) : ∀ x ∈ m, x ∈ l := by
  have key : ∀ (m l : List Int), l.length ≤ (putL l m).length ∧ ((putL l m).length = l.length → ∀ x ∈ m, x ∈ l) := by
    intro m
    induction m with
    | nil => intro l; simp [putL]
    | cons y m ih =>
      intro l
      have h1 : ∀ l : List Int, l.length ≤ (put1 l y).length ∧ ((put1 l y).length = l.length → put1 l y = l) := by
        intro l
        induction l with
        | nil => simp [put1]
        | cons z l ihl =>
          simp only [put1]
          split
          · simp only [List.length_cons]
            exact ⟨by omega, fun q => by rw [ihl.2 (by omega)]⟩
          · split
            · simp
            · simp
      obtain ⟨a1, a2⟩ := ih (put1 l y)
      obtain ⟨b1, b2⟩ := h1 l
      have e : putL l (y :: m) = putL (put1 l y) m := rfl
      rw [e]
      refine ⟨by omega, fun q x hx => ?_⟩
      have hy : put1 l y = l := b2 (by omega)
      rcases List.mem_cons.1 hx with r | r
      · rw [r, ← hy]; exact put1_mem.2 (.inl rfl)
      · have := a2 (by omega) x r
        rw [hy] at this; exact this
  obtain ⟨a1, a2⟩ := key m l
  exact a2 (by omega)

end Go.Gv
