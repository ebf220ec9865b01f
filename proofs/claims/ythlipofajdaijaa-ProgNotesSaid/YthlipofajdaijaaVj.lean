/- The law ProgNotes answers true, for all notes. No condition. -/
import Derived.Test.YthlipofajdaijaaProg
import Derived.Test.YthlipofajdaijaaVg
set_option linter.unusedVariables false
set_option linter.unusedSimpArgs false
namespace Go.Gv
open Go.Proofs

def pnotes_r0 : List AI := [⟨(some 2), none, (.op (.box 12002 3 (.t 0)))⟩, ⟨(some 3), none, (.op (.box 12003 3 (.t 1)))⟩, ⟨(some 4), none, (.op (.mv (.c (.bool false))))⟩]
def pnotes_r1 : List AI := [⟨(some 6), none, (.op (.fld 2 (.t 2)))⟩, ⟨(some 7), none, (.op (.load none (.t 6)))⟩, ⟨(some 8), none, (.op (.len (.t 7)))⟩, ⟨(some 9), none, (.op (.ibin .gtr (.t 8) (.c (.int .i64 20))))⟩, ⟨(some 10), none, (.op (.mv (.t 9)))⟩, ⟨(some 11), (some (10, false)), (.op (.fld 2 (.t 3)))⟩, ⟨(some 12), (some (10, false)), (.op (.load none (.t 11)))⟩, ⟨(some 13), (some (10, false)), (.op (.len (.t 12)))⟩, ⟨(some 14), (some (10, false)), (.op (.ibin .gtr (.t 13) (.c (.int .i64 20))))⟩, ⟨(some 15), none, (.op (.pick (.t 10) (.c (.bool true)) (.t 14)))⟩]
def pnotes_r2 : List AI := [⟨(some 16), none, (.call (.c (.fn 20 [])) [])⟩, ⟨(some 4), none, (.op (.mv (.t 16)))⟩]
def pnotes_r3 : List AI := [⟨(some 17), none, (.op (.fld 0 (.t 2)))⟩, ⟨(some 18), none, (.op (.load none (.t 17)))⟩, ⟨(some 19), none, (.op (.fld 0 (.t 3)))⟩, ⟨(some 20), none, (.op (.load none (.t 19)))⟩, ⟨(some 21), none, (.op (.ibin .eql (.t 18) (.t 20)))⟩, ⟨(some 22), none, (.op (.mv (.t 21)))⟩, ⟨(some 23), (some (22, true)), (.op (.fld 1 (.t 2)))⟩, ⟨(some 24), (some (22, true)), (.op (.load none (.t 23)))⟩, ⟨(some 25), (some (22, true)), (.op (.fld 1 (.t 3)))⟩, ⟨(some 26), (some (22, true)), (.op (.load none (.t 25)))⟩, ⟨(some 27), (some (22, true)), (.op (.ibin .eql (.t 24) (.t 26)))⟩, ⟨(some 28), none, (.op (.pick (.t 22) (.t 27) (.c (.bool false))))⟩, ⟨(some 29), none, (.op (.mv (.t 28)))⟩, ⟨(some 30), (some (29, true)), (.op (.fld 2 (.t 2)))⟩, ⟨(some 31), (some (29, true)), (.op (.load none (.t 30)))⟩, ⟨(some 32), (some (29, true)), (.op (.fld 2 (.t 3)))⟩, ⟨(some 33), (some (29, true)), (.op (.load none (.t 32)))⟩, ⟨(some 34), (some (29, true)), (.call (.c (.fn 29 [])) [(.t 31), (.t 33)])⟩, ⟨(some 35), none, (.op (.pick (.t 29) (.t 34) (.c (.bool false))))⟩, ⟨(some 5), none, (.op (.mv (.t 35)))⟩]
def pnotes_r4 : List AI := [⟨(some 36), none, (.op (.load (some 3) (.t 2)))⟩, ⟨(some 37), none, (.op (.load (some 3) (.t 3)))⟩, ⟨(some 38), none, (.call (.c (.fn 30 [])) [(.t 36), (.t 37)])⟩, ⟨(some 39), none, (.op (.mv (.t 5)))⟩, ⟨(some 40), none, (.op (.eqv false (.t 38) (.t 39)))⟩, ⟨(some 41), none, (.op (.mv (.t 40)))⟩, ⟨(some 42), (some (41, true)), (.op (.load (some 3) (.t 3)))⟩, ⟨(some 43), (some (41, true)), (.op (.load (some 3) (.t 2)))⟩, ⟨(some 44), (some (41, true)), (.call (.c (.fn 30 [])) [(.t 42), (.t 43)])⟩, ⟨(some 45), (some (41, true)), (.op (.mv (.t 5)))⟩, ⟨(some 46), (some (41, true)), (.op (.eqv false (.t 44) (.t 45)))⟩, ⟨(some 47), none, (.op (.pick (.t 41) (.t 46) (.c (.bool false))))⟩, ⟨(some 48), none, (.op (.mv (.t 47)))⟩, ⟨(some 49), (some (48, true)), (.op (.load (some 3) (.t 2)))⟩, ⟨(some 50), (some (48, true)), (.op (.load (some 3) (.t 2)))⟩, ⟨(some 51), (some (48, true)), (.call (.c (.fn 30 [])) [(.t 49), (.t 50)])⟩, ⟨(some 52), none, (.op (.pick (.t 48) (.t 51) (.c (.bool false))))⟩, ⟨(some 53), none, (.op (.mv (.t 52)))⟩, ⟨(some 54), (some (53, true)), (.call (.c (.fn 20 [])) [])⟩, ⟨(some 55), none, (.op (.pick (.t 53) (.t 54) (.c (.bool false))))⟩, ⟨(some 4), none, (.op (.mv (.t 55)))⟩]
def pnotes_c : AC := (.seq (.reg pnotes_r0) (.seq (.seq (.reg pnotes_r1) (.cond (.t 15) (.seq (.reg pnotes_r2) .ret) .skip)) (.seq (.reg pnotes_r3) (.seq (.reg pnotes_r4) .ret))))
def pnotes_res : List ARes := [(.tmp 4)]
theorem pnotes_get : getF Try.prog 12 12000 [] = some ("gavotte/gavottelaw3.ProgNotes", 56, pnotes_c, pnotes_res) := by kernel_rfl
attribute [simp] pnotes_r0 pnotes_r1 pnotes_r2 pnotes_r3 pnotes_r4 pnotes_res

theorem progNotes_pc (a b : Nt) : PC Try.prog 12 [a.av, b.av] (.bool true) := by
  refine pc_of_get pnotes_get (by simp) _ (by simp) _ ?_
  unfold pnotes_c
  simp
  refine split (fun h1 => ?_) (fun h1 => ?_) <;> simp [h1]
  · refine call awake_pc (by simp) ?_
    simp
  refine split (fun h2 => ?_) (fun h2 => ?_) <;> simp [h2]
  · refine call awake_pc (by simp) ?_
    simp
  have e := Nt.eq_iff a b
  have e' := Nt.eq_iff b a
  have s1 := sameNote_pc a b (by omega)
  have s2 := sameNote_pc b a (by omega)
  have s3 := sameNote_pc a a (by omega)
  have i1 := aints_pc a.args b.args (by omega)
  refine split (fun h3 => ?_) (fun h3 => ?_) <;> simp [h3]
  · refine split (fun h4 => ?_) (fun h4 => ?_) <;> simp [h4]
    · refine call i1 (by simp [h3, h4]) ?_
      simp
      refine call s1 (by simp [h3, h4]) ?_
      simp [h3, h4, e]
      refine call s2 (by simp [h3, h4]) ?_
      simp [h3, h4, e', eq_comm]
      refine call s3 (by simp [h3, h4]) ?_
      simp
      refine call awake_pc (by simp) ?_
      simp
    · refine call s1 (by simp [h3]) ?_
      simp [h3, h4, e]
      refine call s2 (by simp [h3]) ?_
      have : ¬ b.hd = a.hd := fun q => h4 q.symm
      simp [h3, h4, e', this]
      refine call s3 (by simp [h3]) ?_
      simp
      refine call awake_pc (by simp) ?_
      simp
  · refine call s1 (by simp) ?_
    simp [h3, e]
    refine call s2 (by simp) ?_
    have : ¬ b.to = a.to := fun q => h3 q.symm
    simp [h3, e', this]
    refine call s3 (by simp) ?_
    simp
    refine call awake_pc (by simp) ?_
    simp

end Go.Gv
