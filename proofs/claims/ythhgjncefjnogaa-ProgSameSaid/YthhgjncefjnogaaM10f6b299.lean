/- Texts of this proof, one behind the other. What is proved, and on which conditions, stands ahead of each. -/
import Derived.Test.YthhgjncefjnogaaProg
import Derived.Test.YthhgjncefjnogaaM97f9b44
import Derived.Test.YthhgjncefjnogaaM8a79871

/- The law ProgOdd answers true. No condition. -/
set_option linter.unusedVariables false
set_option linter.unusedSimpArgs false
namespace Go.Gv
open Go.Proofs

def rnd_r0 : List AI := [⟨(some 4), none, (.op (.mv (.c (.int .i64 0))))⟩]
def rnd_r1 : List AI := [⟨(some 5), none, (.op (.mv (.t 0)))⟩, ⟨(some 6), none, (.op (.mv (.t 1)))⟩, ⟨(some 7), none, (.op (.ibin .rem (.t 5) (.t 6)))⟩, ⟨(some 8), none, (.op (.mv (.t 1)))⟩, ⟨(some 9), none, (.op (.ibin .add (.t 7) (.t 8)))⟩, ⟨(some 10), none, (.op (.mv (.t 1)))⟩, ⟨(some 11), none, (.op (.ibin .rem (.t 9) (.t 10)))⟩, ⟨(some 4), none, (.op (.mv (.t 11)))⟩]
def rnd_c : AC := (.seq (.reg rnd_r0) (.seq (.reg rnd_r1) .ret))
def rnd_res : List ARes := [(.tmp 4)]
set_option maxRecDepth 100000 in
theorem rnd_get : getF Try.prog 30 30000 [] = some ("gavotte/gavottealike.Round", 12, rnd_c, rnd_res) := by kernel_rfl
def oneM_r0 : List AI := [⟨(some 0), none, (.op (.new 27000 4 (.agg [.nils, .nils, .nils, (.int .i64 0)])))⟩]
def oneM_r1 : List AI := [⟨(some 1), none, (.op (.build [(.int .i64 0), (.int .i64 0)] [(0, (1, (.c (.int .i64 7))))]))⟩, ⟨(some 2), none, (.op (.build [(.int .i64 0), (.int .i64 0)] [(0, (1, (.c (.int .i64 6))))]))⟩, ⟨(some 3), none, (.op (.bslm 1000027003 2 35 2 (.agg [(.int .i64 0), (.int .i64 0)]) [(0, (.t 1)), (1, (.t 2))]))⟩, ⟨(some 4), none, (.op (.build [(.int .i64 0), .nils] [(0, (1, (.c (.int .i64 1)))), (1, (1, (.t 3)))]))⟩, ⟨(some 5), none, (.op (.bslm 1000027005 2 33 1 (.agg [(.int .i64 0), .nils]) [(0, (.t 4))]))⟩, ⟨(some 6), none, (.op (.bsl 27006 1 3 1 (.int .i64 0) [(0, (.c (.int .i64 3)))]))⟩, ⟨(some 7), none, (.op (.build [.nils, (.int .i64 0), (.int .i64 0), (.bool false)] [(0, (1, (.t 6))), (1, (1, (.c (.int .i64 2)))), (2, (1, (.c (.int .i64 (-1)))))]))⟩, ⟨(some 8), none, (.op (.bslm 1000027008 4 38 1 (.agg [.nils, (.int .i64 0), (.int .i64 0), (.bool false)]) [(0, (.t 7))]))⟩, ⟨(some 9), none, (.op (.bsl 27009 1 3 1 (.int .i64 0) [(0, (.c (.int .i64 5)))]))⟩, ⟨(some 10), none, (.op (.build [(.int .i64 0), (.int .i64 0), .nils] [(2, (1, (.t 9)))]))⟩, ⟨(some 11), none, (.op (.bslm 1000027011 3 40 1 (.agg [(.int .i64 0), (.int .i64 0), .nils]) [(0, (.t 10))]))⟩, ⟨(some 12), none, (.op (.build [.nils, .nils, .nils, (.int .i64 0)] [(0, (1, (.t 5))), (1, (1, (.t 8))), (2, (1, (.t 11))), (3, (1, (.c (.int .i64 10))))]))⟩, ⟨none, none, (.op (.store 4 (.t 0) (.t 12)))⟩]
def oneM_c : AC := (.seq (.reg oneM_r0) (.seq (.reg oneM_r1) .ret))
def oneM_res : List ARes := [(.cell (some 4) 0)]
set_option maxRecDepth 100000 in
theorem oneM_get : getF Try.prog 29 27000 [(3, 1000000003), (5, 1000000005), (8, 1000000008), (11, 1000000011)] = some ("gavotte/gavottelaw3.one", 13, oneM_c, oneM_res) := by kernel_rfl
def podd_r0 : List AI := [⟨(some 2), none, (.op (.mv (.c (.bool false))))⟩]
def podd_r1 : List AI := [⟨(some 8), none, (.op (.mv (.t 0)))⟩, ⟨(some 9), none, (.call (.c (.fn 30 [])) [(.t 8), (.c (.int .i64 16))])⟩, ⟨(some 3), none, (.op (.mv (.t 9)))⟩]
def podd_r2 : List AI := [⟨(some 10), none, (.call (.c (.fn 29 [])) [])⟩, ⟨(some 4), none, (.op (.new 5004 4 (.agg [.nils, .nils, .nils, (.int .i64 0)])))⟩, ⟨none, none, (.op (.store 4 (.t 4) (.t 10)))⟩]
def podd_r3 : List AI := [⟨(some 11), none, (.op (.fld 0 (.t 4)))⟩, ⟨(some 12), none, (.op (.load none (.t 11)))⟩, ⟨(some 13), none, (.op (.idx 2 (.t 12) (.c (.int .i64 0))))⟩, ⟨(some 14), none, (.op (.fld 1 (.t 13)))⟩, ⟨(some 15), none, (.op (.load none (.t 14)))⟩, ⟨(some 16), none, (.op (.idx 2 (.t 15) (.c (.int .i64 0))))⟩, ⟨(some 5), none, (.op (.mv (.t 16)))⟩]
def podd_r4 : List AI := [⟨(some 17), none, (.op (.fld 1 (.t 4)))⟩, ⟨(some 18), none, (.op (.load none (.t 17)))⟩, ⟨(some 19), none, (.op (.idx 4 (.t 18) (.c (.int .i64 0))))⟩, ⟨(some 6), none, (.op (.mv (.t 19)))⟩]
def podd_r5 : List AI := [⟨(some 7), none, (.op (.mv (.c (.int .i64 1))))⟩]
def podd_r6 : List AI := [⟨(some 20), none, (.op (.mv (.t 3)))⟩]
def podd_r7 : List AI := [⟨(some 22), none, (.op (.ibin .eql (.t 20) (.c (.int .i64 0))))⟩, ⟨(some 21), none, (.op (.mv (.t 22)))⟩]
def podd_r8 : List AI := [⟨(some 23), none, (.op (.fld 3 (.t 4)))⟩, ⟨none, none, (.op (.store 1 (.t 23) (.c (.int .i64 257))))⟩]
def podd_r9 : List AI := [⟨(some 25), none, (.op (.ibin .eql (.t 20) (.c (.int .i64 1))))⟩, ⟨(some 24), none, (.op (.mv (.t 25)))⟩]
def podd_r10 : List AI := [⟨(some 26), none, (.op (.fld 1 (.t 4)))⟩, ⟨none, none, (.op (.store 1 (.t 26) (.c .nils)))⟩]
def podd_r11 : List AI := [⟨(some 28), none, (.op (.ibin .eql (.t 20) (.c (.int .i64 2))))⟩, ⟨(some 27), none, (.op (.mv (.t 28)))⟩]
def podd_r12 : List AI := [⟨(some 29), none, (.op (.fld 0 (.t 4)))⟩, ⟨(some 30), none, (.op (.load none (.t 29)))⟩, ⟨(some 31), none, (.op (.idx 2 (.t 30) (.c (.int .i64 0))))⟩, ⟨(some 32), none, (.op (.fld 0 (.t 31)))⟩, ⟨none, none, (.op (.store 1 (.t 32) (.c (.int .i64 5))))⟩]
def podd_r13 : List AI := [⟨(some 34), none, (.op (.ibin .eql (.t 20) (.c (.int .i64 3))))⟩, ⟨(some 33), none, (.op (.mv (.t 34)))⟩]
def podd_r14 : List AI := [⟨(some 35), none, (.op (.mv (.t 5)))⟩, ⟨(some 36), none, (.op (.build [(.int .i64 0), (.int .i64 0)] [(0, (1, (.c (.int .i64 26))))]))⟩, ⟨(some 37), none, (.op (.nilck (.t 35)))⟩, ⟨none, none, (.op (.store 2 (.t 37) (.t 36)))⟩]
def podd_r15 : List AI := [⟨(some 39), none, (.op (.ibin .eql (.t 20) (.c (.int .i64 4))))⟩, ⟨(some 38), none, (.op (.mv (.t 39)))⟩]
def podd_r16 : List AI := [⟨(some 40), none, (.op (.mv (.t 5)))⟩, ⟨(some 41), none, (.op (.build [(.int .i64 0), (.int .i64 0)] [(0, (1, (.c (.int .i64 9)))), (1, (1, (.c (.int .i64 1))))]))⟩, ⟨(some 42), none, (.op (.nilck (.t 40)))⟩, ⟨none, none, (.op (.store 2 (.t 42) (.t 41)))⟩]
def podd_r17 : List AI := [⟨(some 44), none, (.op (.ibin .eql (.t 20) (.c (.int .i64 5))))⟩, ⟨(some 43), none, (.op (.mv (.t 44)))⟩]
def podd_r18 : List AI := [⟨(some 45), none, (.op (.mv (.t 5)))⟩, ⟨(some 46), none, (.op (.build [(.int .i64 0), (.int .i64 0)] [(0, (1, (.c (.int .i64 20)))), (1, (1, (.c (.int .i64 3))))]))⟩, ⟨(some 47), none, (.op (.nilck (.t 45)))⟩, ⟨none, none, (.op (.store 2 (.t 47) (.t 46)))⟩]
def podd_r19 : List AI := [⟨(some 7), none, (.op (.mv (.c (.int .i64 4))))⟩]
def podd_r20 : List AI := [⟨(some 49), none, (.op (.ibin .eql (.t 20) (.c (.int .i64 6))))⟩, ⟨(some 48), none, (.op (.mv (.t 49)))⟩]
def podd_r21 : List AI := [⟨(some 50), none, (.op (.mv (.t 5)))⟩, ⟨(some 51), none, (.op (.build [(.int .i64 0), (.int .i64 0)] [(0, (1, (.c (.int .i64 5)))), (1, (1, (.c (.int .i64 8))))]))⟩, ⟨(some 52), none, (.op (.nilck (.t 50)))⟩, ⟨none, none, (.op (.store 2 (.t 52) (.t 51)))⟩]
def podd_r22 : List AI := [⟨(some 7), none, (.op (.mv (.c (.int .i64 6))))⟩]
def podd_r23 : List AI := [⟨(some 54), none, (.op (.ibin .eql (.t 20) (.c (.int .i64 7))))⟩, ⟨(some 53), none, (.op (.mv (.t 54)))⟩]
def podd_r24 : List AI := [⟨(some 55), none, (.op (.mv (.t 5)))⟩, ⟨(some 56), none, (.op (.build [(.int .i64 0), (.int .i64 0)] [(0, (1, (.c (.int .i64 7)))), (1, (1, (.c (.int .i64 1))))]))⟩, ⟨(some 57), none, (.op (.nilck (.t 55)))⟩, ⟨none, none, (.op (.store 2 (.t 57) (.t 56)))⟩]
def podd_r25 : List AI := [⟨(some 7), none, (.op (.mv (.c (.int .i64 6))))⟩]
def podd_r26 : List AI := [⟨(some 59), none, (.op (.ibin .eql (.t 20) (.c (.int .i64 8))))⟩, ⟨(some 58), none, (.op (.mv (.t 59)))⟩]
def podd_r27 : List AI := [⟨(some 60), none, (.op (.mv (.t 5)))⟩, ⟨(some 61), none, (.op (.build [(.int .i64 0), (.int .i64 0)] [(0, (1, (.c (.int .i64 22)))), (1, (1, (.c (.int .i64 1))))]))⟩, ⟨(some 62), none, (.op (.nilck (.t 60)))⟩, ⟨none, none, (.op (.store 2 (.t 62) (.t 61)))⟩]
def podd_r28 : List AI := [⟨(some 7), none, (.op (.mv (.c (.int .i64 7))))⟩]
def podd_r29 : List AI := [⟨(some 64), none, (.op (.ibin .eql (.t 20) (.c (.int .i64 9))))⟩, ⟨(some 63), none, (.op (.mv (.t 64)))⟩]
def podd_r30 : List AI := [⟨(some 65), none, (.op (.mv (.t 6)))⟩, ⟨(some 66), none, (.op (.nilck (.t 65)))⟩, ⟨(some 67), none, (.op (.fld 1 (.t 66)))⟩, ⟨none, none, (.op (.store 1 (.t 67) (.c (.int .i64 17))))⟩]
def podd_r31 : List AI := [⟨(some 69), none, (.op (.ibin .eql (.t 20) (.c (.int .i64 10))))⟩, ⟨(some 68), none, (.op (.mv (.t 69)))⟩]
def podd_r32 : List AI := [⟨(some 70), none, (.op (.mv (.t 6)))⟩, ⟨(some 71), none, (.op (.nilck (.t 70)))⟩, ⟨(some 72), none, (.op (.fld 2 (.t 71)))⟩, ⟨none, none, (.op (.store 1 (.t 72) (.c (.int .i64 0))))⟩]
def podd_r33 : List AI := [⟨(some 7), none, (.op (.mv (.c (.int .i64 7))))⟩]
def podd_r34 : List AI := [⟨(some 74), none, (.op (.ibin .eql (.t 20) (.c (.int .i64 11))))⟩, ⟨(some 73), none, (.op (.mv (.t 74)))⟩]
def podd_r35 : List AI := [⟨(some 75), none, (.op (.mv (.t 6)))⟩, ⟨(some 76), none, (.op (.nilck (.t 75)))⟩, ⟨(some 77), none, (.op (.fld 2 (.t 76)))⟩, ⟨none, none, (.op (.store 1 (.t 77) (.c (.int .i64 (-2)))))⟩]
def podd_r36 : List AI := [⟨(some 7), none, (.op (.mv (.c (.int .i64 7))))⟩]
def podd_r37 : List AI := [⟨(some 79), none, (.op (.ibin .eql (.t 20) (.c (.int .i64 12))))⟩, ⟨(some 78), none, (.op (.mv (.t 79)))⟩]
def podd_r38 : List AI := [⟨(some 80), none, (.op (.mv (.t 6)))⟩, ⟨(some 81), none, (.op (.nilck (.t 80)))⟩, ⟨(some 82), none, (.op (.fld 3 (.t 81)))⟩, ⟨none, none, (.op (.store 1 (.t 82) (.c (.bool true))))⟩]
def podd_r39 : List AI := [⟨(some 84), none, (.op (.ibin .eql (.t 20) (.c (.int .i64 13))))⟩, ⟨(some 83), none, (.op (.mv (.t 84)))⟩]
def podd_r40 : List AI := [⟨(some 85), none, (.op (.fld 2 (.t 4)))⟩, ⟨(some 86), none, (.op (.load none (.t 85)))⟩, ⟨(some 87), none, (.op (.idx 3 (.t 86) (.c (.int .i64 0))))⟩, ⟨(some 88), none, (.op (.fld 0 (.t 87)))⟩, ⟨none, none, (.op (.store 1 (.t 88) (.c (.int .i64 1))))⟩]
def podd_r41 : List AI := [⟨(some 7), none, (.op (.mv (.c (.int .i64 7))))⟩]
def podd_r42 : List AI := [⟨(some 90), none, (.op (.ibin .eql (.t 20) (.c (.int .i64 14))))⟩, ⟨(some 89), none, (.op (.mv (.t 90)))⟩]
def podd_r43 : List AI := [⟨(some 91), none, (.op (.fld 2 (.t 4)))⟩, ⟨(some 92), none, (.op (.load none (.t 91)))⟩, ⟨(some 93), none, (.op (.idx 3 (.t 92) (.c (.int .i64 0))))⟩, ⟨(some 94), none, (.op (.fld 1 (.t 93)))⟩, ⟨none, none, (.op (.store 1 (.t 94) (.c (.int .i64 (-1)))))⟩]
def podd_r44 : List AI := [⟨(some 7), none, (.op (.mv (.c (.int .i64 7))))⟩]
def podd_r45 : List AI := [⟨(some 96), none, (.op (.ibin .eql (.t 20) (.c (.int .i64 15))))⟩, ⟨(some 95), none, (.op (.mv (.t 96)))⟩]
def podd_r46 : List AI := [⟨(some 97), none, (.op (.fld 2 (.t 4)))⟩, ⟨(some 98), none, (.op (.load none (.t 97)))⟩, ⟨(some 99), none, (.op (.idx 3 (.t 98) (.c (.int .i64 0))))⟩, ⟨(some 100), none, (.op (.fld 2 (.t 99)))⟩, ⟨none, none, (.op (.store 1 (.t 100) (.c .nils)))⟩]
def podd_k0 : AC := (.cond (.t 95) (.reg podd_r46) .skip)
def podd_k1 : AC := (.cond (.t 89) (.seq (.reg podd_r43) (.reg podd_r44)) (.seq (.reg podd_r45) podd_k0))
def podd_k2 : AC := (.cond (.t 83) (.seq (.reg podd_r40) (.reg podd_r41)) (.seq (.reg podd_r42) podd_k1))
def podd_k3 : AC := (.cond (.t 78) (.reg podd_r38) (.seq (.reg podd_r39) podd_k2))
def podd_k4 : AC := (.cond (.t 73) (.seq (.reg podd_r35) (.reg podd_r36)) (.seq (.reg podd_r37) podd_k3))
def podd_k5 : AC := (.cond (.t 68) (.seq (.reg podd_r32) (.reg podd_r33)) (.seq (.reg podd_r34) podd_k4))
def podd_k6 : AC := (.cond (.t 63) (.reg podd_r30) (.seq (.reg podd_r31) podd_k5))
def podd_k7 : AC := (.cond (.t 58) (.seq (.reg podd_r27) (.reg podd_r28)) (.seq (.reg podd_r29) podd_k6))
def podd_k8 : AC := (.cond (.t 53) (.seq (.reg podd_r24) (.reg podd_r25)) (.seq (.reg podd_r26) podd_k7))
def podd_k9 : AC := (.cond (.t 48) (.seq (.reg podd_r21) (.reg podd_r22)) (.seq (.reg podd_r23) podd_k8))
def podd_k10 : AC := (.cond (.t 43) (.seq (.reg podd_r18) (.reg podd_r19)) (.seq (.reg podd_r20) podd_k9))
def podd_k11 : AC := (.cond (.t 38) (.reg podd_r16) (.seq (.reg podd_r17) podd_k10))
def podd_k12 : AC := (.cond (.t 33) (.reg podd_r14) (.seq (.reg podd_r15) podd_k11))
def podd_k13 : AC := (.cond (.t 27) (.reg podd_r12) (.seq (.reg podd_r13) podd_k12))
def podd_k14 : AC := (.cond (.t 24) (.reg podd_r10) (.seq (.reg podd_r11) podd_k13))
def podd_k15 : AC := (.cond (.t 21) (.reg podd_r8) (.seq (.reg podd_r9) podd_k14))
def podd_r47 : List AI := [⟨(some 101), none, (.op (.load (some 4) (.t 4)))⟩, ⟨(some 102), none, (.call (.c (.fn 31 [])) [(.t 101)])⟩, ⟨(some 103), none, (.op (.mv (.t 7)))⟩, ⟨(some 104), none, (.op (.ibin .eql (.t 102) (.t 103)))⟩, ⟨(some 105), none, (.op (.mv (.t 104)))⟩, ⟨(some 106), (some (105, true)), (.call (.c (.fn 29 [])) [])⟩, ⟨(some 107), (some (105, true)), (.call (.c (.fn 31 [])) [(.t 106)])⟩, ⟨(some 108), (some (105, true)), (.op (.ibin .eql (.t 107) (.c (.int .i64 0))))⟩, ⟨(some 109), none, (.op (.pick (.t 105) (.t 108) (.c (.bool false))))⟩, ⟨(some 110), none, (.op (.mv (.t 109)))⟩, ⟨(some 111), (some (110, true)), (.call (.c (.fn 25 [])) [])⟩, ⟨(some 112), none, (.op (.pick (.t 110) (.t 111) (.c (.bool false))))⟩, ⟨(some 2), none, (.op (.mv (.t 112)))⟩]
def podd_c : AC := (.seq (.reg podd_r0) (.seq (.reg podd_r1) (.seq (.reg podd_r2) (.seq (.reg podd_r3) (.seq (.reg podd_r4) (.seq (.reg podd_r5) (.seq (.seq (.reg podd_r6) (.block 0 (.seq (.reg podd_r7) podd_k15))) (.seq (.reg podd_r47) .ret))))))))
def podd_res : List ARes := [(.tmp 2)]
set_option maxRecDepth 100000 in
theorem podd_get : getF Try.prog 5 5000 [] = some ("gavotte/gavottelaw3.ProgOdd", 113, podd_c, podd_res) := by kernel_rfl
attribute [simp] rnd_r0 rnd_r1 rnd_res oneM_r0 oneM_r1 oneM_res podd_r0 podd_r1 podd_r2 podd_r3 podd_r4 podd_r5 podd_r6 podd_r7 podd_r8 podd_r9 podd_r10 podd_r11 podd_r12 podd_r13 podd_r14 podd_r15 podd_r16 podd_r17 podd_r18 podd_r19 podd_r20 podd_r21 podd_r22 podd_r23 podd_r24 podd_r25 podd_r26 podd_r27 podd_r28 podd_r29 podd_r30 podd_r31 podd_r32 podd_r33 podd_r34 podd_r35 podd_r36 podd_r37 podd_r38 podd_r39 podd_r40 podd_r41 podd_r42 podd_r43 podd_r44 podd_r45 podd_r46 podd_r47 podd_res

theorem V_cut3 {P : Program} {a : AC} {κ : Ex → St → Prop} {S : St} (Q : St → Prop) (h : V P a (fun e S' => e = .normal ∧ Q S') S) (hk : ∀ S', Q S' → κ .normal S') : V P a κ S :=
  V_mono a (by rintro e S' ⟨rfl, q⟩; exact hk S' q) h
theorem rnd_pc (k n : Int) (hn : 0 < n ∧ n ≤ 1000) : PC Try.prog 30 [iv k, iv n] (iv ((k.tmod n + n).tmod n)) := by
  refine pc_of_get rnd_get (by simp) _ (by simp) _ ?_
  unfold rnd_c
  have a1 := Int.tmod_lt_of_pos k hn.1
  have a2 := Int.lt_tmod_of_pos k hn.1
  have h1 : IntKind.i64.wrap (k.tmod n + n) = k.tmod n + n := wrap_in _ (by omega) (by omega)
  have h2 : n ≠ 0 := by omega
  simp [h1, h2]
theorem rnd_cases (k n : Int) (hn : 0 < n) : ∃ j : Nat, (j : Int) < n ∧ (k.tmod n + n).tmod n = (j : Int) := by
  have a1 := Int.tmod_lt_of_pos k hn
  have a2 := Int.lt_tmod_of_pos k hn
  rw [Int.tmod_eq_emod_of_nonneg (by omega)]
  have b1 := Int.emod_nonneg (k.tmod n + n) (show n ≠ 0 by omega)
  have b2 := Int.emod_lt_of_pos (k.tmod n + n) hn
  exact ⟨((k.tmod n + n) % n).toNat, by omega, by omega⟩
/-- A program in mutable blocks. -/
theorem oneM_v {S : St} {k : AV → St → Prop} {u : Dep k}
    (hk : ∀ (S' : St) (s3 s5 s8 s11 a b : Nat), S'.t = S.t → (∀ n, 27000 ≤ n → n < 28000 → True) → (∀ n, n < 27000 → S'.blk n = S.blk n) → (∀ n, n < 27000 → S'.tok n = S.tok n) →
      S'.blk 1000027003 = some ⟨s3, 2, [.agg [iv 7, iv 0], .agg [iv 6, iv 0]]⟩ → S'.blk 1000027005 = some ⟨s5, 2, [.agg [iv 1, .sl 1000027003 s3 2 0 2]]⟩ →
      S'.blk 1000027008 = some ⟨s8, 4, [.agg [.acc 27006 a 1 [iv 3], iv 2, iv (-1), .bool false]]⟩ → S'.blk 1000027011 = some ⟨s11, 3, [.agg [iv 0, iv 0, .acc 27009 b 1 [iv 5]]]⟩ →
      k (.agg [.sl 1000027005 s5 2 0 1, .sl 1000027008 s8 4 0 1, .sl 1000027011 s11 3 0 1, iv 10]) S') : CallG Try.prog (.fn 29 []) [] S k u := by
  refine callV oneM_get (by simp) (by simp) ?_
  unfold oneM_c
  simp
  refine hk _ (S.clk + 1 + 1 + 1) (S.clk + 1 + 1 + 1 + 1 + 1) (S.clk + 1 + 1 + 1 + 1 + 1 + 1 + 1 + 1) (S.clk + 1 + 1 + 1 + 1 + 1 + 1 + 1 + 1 + 1 + 1 + 1) (S.clk + 1 + 1 + 1 + 1 + 1 + 1) (S.clk + 1 + 1 + 1 + 1 + 1 + 1 + 1 + 1 + 1) rfl (fun _ _ _ => trivial) (fun n hn => ?_) (fun n hn => ?_) ?_ ?_ ?_ ?_
  · simp [show n ≠ 27000 by omega, show n ≠ 1000027003 by omega, show n ≠ 1000027005 by omega, show n ≠ 1000027008 by omega, show n ≠ 1000027011 by omega]
  · simp [show n ≠ 27006 by omega, show n ≠ 27009 by omega]
  all_goals simp
def oddP : Nat → Prg
  | 0 => ⟨[⟨1, [⟨7, 0⟩, ⟨6, 0⟩]⟩], [⟨[3], 2, -1, false⟩], [⟨0, 0, [5]⟩], 257⟩
  | 1 => ⟨[⟨1, [⟨7, 0⟩, ⟨6, 0⟩]⟩], [], [⟨0, 0, [5]⟩], 10⟩
  | 2 => ⟨[⟨5, [⟨7, 0⟩, ⟨6, 0⟩]⟩], [⟨[3], 2, -1, false⟩], [⟨0, 0, [5]⟩], 10⟩
  | 3 => ⟨[⟨1, [⟨26, 0⟩, ⟨6, 0⟩]⟩], [⟨[3], 2, -1, false⟩], [⟨0, 0, [5]⟩], 10⟩
  | 4 => ⟨[⟨1, [⟨9, 1⟩, ⟨6, 0⟩]⟩], [⟨[3], 2, -1, false⟩], [⟨0, 0, [5]⟩], 10⟩
  | 5 => ⟨[⟨1, [⟨20, 3⟩, ⟨6, 0⟩]⟩], [⟨[3], 2, -1, false⟩], [⟨0, 0, [5]⟩], 10⟩
  | 6 => ⟨[⟨1, [⟨5, 8⟩, ⟨6, 0⟩]⟩], [⟨[3], 2, -1, false⟩], [⟨0, 0, [5]⟩], 10⟩
  | 7 => ⟨[⟨1, [⟨7, 1⟩, ⟨6, 0⟩]⟩], [⟨[3], 2, -1, false⟩], [⟨0, 0, [5]⟩], 10⟩
  | 8 => ⟨[⟨1, [⟨22, 1⟩, ⟨6, 0⟩]⟩], [⟨[3], 2, -1, false⟩], [⟨0, 0, [5]⟩], 10⟩
  | 9 => ⟨[⟨1, [⟨7, 0⟩, ⟨6, 0⟩]⟩], [⟨[3], 17, -1, false⟩], [⟨0, 0, [5]⟩], 10⟩
  | 10 => ⟨[⟨1, [⟨7, 0⟩, ⟨6, 0⟩]⟩], [⟨[3], 2, 0, false⟩], [⟨0, 0, [5]⟩], 10⟩
  | 11 => ⟨[⟨1, [⟨7, 0⟩, ⟨6, 0⟩]⟩], [⟨[3], 2, -2, false⟩], [⟨0, 0, [5]⟩], 10⟩
  | 12 => ⟨[⟨1, [⟨7, 0⟩, ⟨6, 0⟩]⟩], [⟨[3], 2, -1, true⟩], [⟨0, 0, [5]⟩], 10⟩
  | 13 => ⟨[⟨1, [⟨7, 0⟩, ⟨6, 0⟩]⟩], [⟨[3], 2, -1, false⟩], [⟨1, 0, [5]⟩], 10⟩
  | 14 => ⟨[⟨1, [⟨7, 0⟩, ⟨6, 0⟩]⟩], [⟨[3], 2, -1, false⟩], [⟨0, -1, [5]⟩], 10⟩
  | _ => ⟨[⟨1, [⟨7, 0⟩, ⟨6, 0⟩]⟩], [⟨[3], 2, -1, false⟩], [⟨0, 0, []⟩], 10⟩
def oddW : Nat → Int
  | 0 => 1
  | 1 => 1
  | 2 => 1
  | 3 => 1
  | 4 => 1
  | 5 => 4
  | 6 => 6
  | 7 => 6
  | 8 => 7
  | 9 => 1
  | 10 => 7
  | 11 => 7
  | 12 => 1
  | 13 => 7
  | 14 => 7
  | _ => 1
/-- What the switch leaves. -/
def OddQ (n : Nat) (S : St) : Prop := ∃ st w1 w2 w3 w4, S.t 4 = .ptr 5004 st 4 0 0 ∧ S.blk 5004 = some ⟨st, 4, [.agg [w1, w2, w3, w4]]⟩ ∧ S.t 7 = iv (oddW n) ∧ elemR (dco S.blk 2) (.agg [w1, w2, w3, w4]) (oddP n).av
/-- What is there ahead of the switch. -/
def OddI (n : Nat) (S : St) : Prop := ∃ st s3 s5 s8 s11 a b, S.t 20 = iv n ∧ S.t 21 = .bool (decide ((n : Int) = 0)) ∧ S.t 4 = .ptr 5004 st 4 0 0 ∧ S.blk 5004 = some ⟨st, 4, [.agg [.sl 1000027005 s5 2 0 1, .sl 1000027008 s8 4 0 1, .sl 1000027011 s11 3 0 1, iv 10]]⟩ ∧ S.t 7 = iv 1 ∧
  S.t 5 = .ptr 1000027003 s3 2 0 0 ∧ S.t 6 = .ptr 1000027008 s8 4 0 0 ∧
  S.blk 1000027003 = some ⟨s3, 2, [.agg [iv 7, iv 0], .agg [iv 6, iv 0]]⟩ ∧ S.blk 1000027005 = some ⟨s5, 2, [.agg [iv 1, .sl 1000027003 s3 2 0 2]]⟩ ∧
  S.blk 1000027008 = some ⟨s8, 4, [.agg [.acc 27006 a 1 [iv 3], iv 2, iv (-1), .bool false]]⟩ ∧ S.blk 1000027011 = some ⟨s11, 3, [.agg [iv 0, iv 0, .acc 27009 b 1 [iv 5]]]⟩
theorem podd_sw0 (S : St) (h : OddI 0 S) : V Try.prog podd_k15 (fun e S' => e = .normal ∧ OddQ 0 S') S := by
  obtain ⟨st, s3, s5, s8, s11, a, b, g20, g21, g4, c4, g7, g5, g6, b3, b5, b8, b11⟩ := h
  simp [podd_k0, podd_k1, podd_k2, podd_k3, podd_k4, podd_k5, podd_k6, podd_k7, podd_k8, podd_k9, podd_k10, podd_k11, podd_k12, podd_k13, podd_k14, podd_k15, g21, g20, g4, c4, g7, g5, g6, b3, b5, b8, b11]
  refine ⟨st, .sl 1000027005 s5 2 0 1, .sl 1000027008 s8 4 0 1, .sl 1000027011 s11 3 0 1, iv 257, by simp [g4], by simp [c4], by simp [g7, oddW], ?_⟩
  simp [oddP, dco, elemR, coL, co1, b3, b5, b8, b11]
theorem podd_sw1 (S : St) (h : OddI 1 S) : V Try.prog podd_k15 (fun e S' => e = .normal ∧ OddQ 1 S') S := by
  obtain ⟨st, s3, s5, s8, s11, a, b, g20, g21, g4, c4, g7, g5, g6, b3, b5, b8, b11⟩ := h
  simp [podd_k0, podd_k1, podd_k2, podd_k3, podd_k4, podd_k5, podd_k6, podd_k7, podd_k8, podd_k9, podd_k10, podd_k11, podd_k12, podd_k13, podd_k14, podd_k15, g21, g20, g4, c4, g7, g5, g6, b3, b5, b8, b11]
  refine ⟨st, .sl 1000027005 s5 2 0 1, .nils, .sl 1000027011 s11 3 0 1, iv 10, by simp [g4], by simp [c4], by simp [g7, oddW], ?_⟩
  simp [oddP, dco, elemR, coL, co1, b3, b5, b8, b11]
theorem podd_sw2 (S : St) (h : OddI 2 S) : V Try.prog podd_k15 (fun e S' => e = .normal ∧ OddQ 2 S') S := by
  obtain ⟨st, s3, s5, s8, s11, a, b, g20, g21, g4, c4, g7, g5, g6, b3, b5, b8, b11⟩ := h
  simp [podd_k0, podd_k1, podd_k2, podd_k3, podd_k4, podd_k5, podd_k6, podd_k7, podd_k8, podd_k9, podd_k10, podd_k11, podd_k12, podd_k13, podd_k14, podd_k15, g21, g20, g4, c4, g7, g5, g6, b3, b5, b8, b11]
  refine ⟨st, .sl 1000027005 s5 2 0 1, .sl 1000027008 s8 4 0 1, .sl 1000027011 s11 3 0 1, iv 10, by simp [g4], by simp [c4], by simp [g7, oddW], ?_⟩
  simp [oddP, dco, elemR, coL, co1, b3, b5, b8, b11]
theorem podd_sw3 (S : St) (h : OddI 3 S) : V Try.prog podd_k15 (fun e S' => e = .normal ∧ OddQ 3 S') S := by
  obtain ⟨st, s3, s5, s8, s11, a, b, g20, g21, g4, c4, g7, g5, g6, b3, b5, b8, b11⟩ := h
  simp [podd_k0, podd_k1, podd_k2, podd_k3, podd_k4, podd_k5, podd_k6, podd_k7, podd_k8, podd_k9, podd_k10, podd_k11, podd_k12, podd_k13, podd_k14, podd_k15, g21, g20, g4, c4, g7, g5, g6, b3, b5, b8, b11]
  refine ⟨st, .sl 1000027005 s5 2 0 1, .sl 1000027008 s8 4 0 1, .sl 1000027011 s11 3 0 1, iv 10, by simp [g4], by simp [c4], by simp [g7, oddW], ?_⟩
  simp [oddP, dco, elemR, coL, co1, b3, b5, b8, b11]
theorem podd_sw4 (S : St) (h : OddI 4 S) : V Try.prog podd_k15 (fun e S' => e = .normal ∧ OddQ 4 S') S := by
  obtain ⟨st, s3, s5, s8, s11, a, b, g20, g21, g4, c4, g7, g5, g6, b3, b5, b8, b11⟩ := h
  simp [podd_k0, podd_k1, podd_k2, podd_k3, podd_k4, podd_k5, podd_k6, podd_k7, podd_k8, podd_k9, podd_k10, podd_k11, podd_k12, podd_k13, podd_k14, podd_k15, g21, g20, g4, c4, g7, g5, g6, b3, b5, b8, b11]
  refine ⟨st, .sl 1000027005 s5 2 0 1, .sl 1000027008 s8 4 0 1, .sl 1000027011 s11 3 0 1, iv 10, by simp [g4], by simp [c4], by simp [g7, oddW], ?_⟩
  simp [oddP, dco, elemR, coL, co1, b3, b5, b8, b11]
theorem podd_sw5 (S : St) (h : OddI 5 S) : V Try.prog podd_k15 (fun e S' => e = .normal ∧ OddQ 5 S') S := by
  obtain ⟨st, s3, s5, s8, s11, a, b, g20, g21, g4, c4, g7, g5, g6, b3, b5, b8, b11⟩ := h
  simp [podd_k0, podd_k1, podd_k2, podd_k3, podd_k4, podd_k5, podd_k6, podd_k7, podd_k8, podd_k9, podd_k10, podd_k11, podd_k12, podd_k13, podd_k14, podd_k15, g21, g20, g4, c4, g7, g5, g6, b3, b5, b8, b11]
  refine ⟨st, .sl 1000027005 s5 2 0 1, .sl 1000027008 s8 4 0 1, .sl 1000027011 s11 3 0 1, iv 10, by simp [g4], by simp [c4], by simp [g7, oddW], ?_⟩
  simp [oddP, dco, elemR, coL, co1, b3, b5, b8, b11]
theorem podd_sw6 (S : St) (h : OddI 6 S) : V Try.prog podd_k15 (fun e S' => e = .normal ∧ OddQ 6 S') S := by
  obtain ⟨st, s3, s5, s8, s11, a, b, g20, g21, g4, c4, g7, g5, g6, b3, b5, b8, b11⟩ := h
  simp [podd_k0, podd_k1, podd_k2, podd_k3, podd_k4, podd_k5, podd_k6, podd_k7, podd_k8, podd_k9, podd_k10, podd_k11, podd_k12, podd_k13, podd_k14, podd_k15, g21, g20, g4, c4, g7, g5, g6, b3, b5, b8, b11]
  refine ⟨st, .sl 1000027005 s5 2 0 1, .sl 1000027008 s8 4 0 1, .sl 1000027011 s11 3 0 1, iv 10, by simp [g4], by simp [c4], by simp [g7, oddW], ?_⟩
  simp [oddP, dco, elemR, coL, co1, b3, b5, b8, b11]
theorem podd_sw7 (S : St) (h : OddI 7 S) : V Try.prog podd_k15 (fun e S' => e = .normal ∧ OddQ 7 S') S := by
  obtain ⟨st, s3, s5, s8, s11, a, b, g20, g21, g4, c4, g7, g5, g6, b3, b5, b8, b11⟩ := h
  simp [podd_k0, podd_k1, podd_k2, podd_k3, podd_k4, podd_k5, podd_k6, podd_k7, podd_k8, podd_k9, podd_k10, podd_k11, podd_k12, podd_k13, podd_k14, podd_k15, g21, g20, g4, c4, g7, g5, g6, b3, b5, b8, b11]
  refine ⟨st, .sl 1000027005 s5 2 0 1, .sl 1000027008 s8 4 0 1, .sl 1000027011 s11 3 0 1, iv 10, by simp [g4], by simp [c4], by simp [g7, oddW], ?_⟩
  simp [oddP, dco, elemR, coL, co1, b3, b5, b8, b11]
theorem podd_sw8 (S : St) (h : OddI 8 S) : V Try.prog podd_k15 (fun e S' => e = .normal ∧ OddQ 8 S') S := by
  obtain ⟨st, s3, s5, s8, s11, a, b, g20, g21, g4, c4, g7, g5, g6, b3, b5, b8, b11⟩ := h
  simp [podd_k0, podd_k1, podd_k2, podd_k3, podd_k4, podd_k5, podd_k6, podd_k7, podd_k8, podd_k9, podd_k10, podd_k11, podd_k12, podd_k13, podd_k14, podd_k15, g21, g20, g4, c4, g7, g5, g6, b3, b5, b8, b11]
  refine ⟨st, .sl 1000027005 s5 2 0 1, .sl 1000027008 s8 4 0 1, .sl 1000027011 s11 3 0 1, iv 10, by simp [g4], by simp [c4], by simp [g7, oddW], ?_⟩
  simp [oddP, dco, elemR, coL, co1, b3, b5, b8, b11]
theorem podd_sw9 (S : St) (h : OddI 9 S) : V Try.prog podd_k15 (fun e S' => e = .normal ∧ OddQ 9 S') S := by
  obtain ⟨st, s3, s5, s8, s11, a, b, g20, g21, g4, c4, g7, g5, g6, b3, b5, b8, b11⟩ := h
  simp [podd_k0, podd_k1, podd_k2, podd_k3, podd_k4, podd_k5, podd_k6, podd_k7, podd_k8, podd_k9, podd_k10, podd_k11, podd_k12, podd_k13, podd_k14, podd_k15, g21, g20, g4, c4, g7, g5, g6, b3, b5, b8, b11]
  refine ⟨st, .sl 1000027005 s5 2 0 1, .sl 1000027008 s8 4 0 1, .sl 1000027011 s11 3 0 1, iv 10, by simp [g4], by simp [c4], by simp [g7, oddW], ?_⟩
  simp [oddP, dco, elemR, coL, co1, b3, b5, b8, b11]
theorem podd_sw10 (S : St) (h : OddI 10 S) : V Try.prog podd_k15 (fun e S' => e = .normal ∧ OddQ 10 S') S := by
  obtain ⟨st, s3, s5, s8, s11, a, b, g20, g21, g4, c4, g7, g5, g6, b3, b5, b8, b11⟩ := h
  simp [podd_k0, podd_k1, podd_k2, podd_k3, podd_k4, podd_k5, podd_k6, podd_k7, podd_k8, podd_k9, podd_k10, podd_k11, podd_k12, podd_k13, podd_k14, podd_k15, g21, g20, g4, c4, g7, g5, g6, b3, b5, b8, b11]
  refine ⟨st, .sl 1000027005 s5 2 0 1, .sl 1000027008 s8 4 0 1, .sl 1000027011 s11 3 0 1, iv 10, by simp [g4], by simp [c4], by simp [g7, oddW], ?_⟩
  simp [oddP, dco, elemR, coL, co1, b3, b5, b8, b11]
theorem podd_sw11 (S : St) (h : OddI 11 S) : V Try.prog podd_k15 (fun e S' => e = .normal ∧ OddQ 11 S') S := by
  obtain ⟨st, s3, s5, s8, s11, a, b, g20, g21, g4, c4, g7, g5, g6, b3, b5, b8, b11⟩ := h
  simp [podd_k0, podd_k1, podd_k2, podd_k3, podd_k4, podd_k5, podd_k6, podd_k7, podd_k8, podd_k9, podd_k10, podd_k11, podd_k12, podd_k13, podd_k14, podd_k15, g21, g20, g4, c4, g7, g5, g6, b3, b5, b8, b11]
  refine ⟨st, .sl 1000027005 s5 2 0 1, .sl 1000027008 s8 4 0 1, .sl 1000027011 s11 3 0 1, iv 10, by simp [g4], by simp [c4], by simp [g7, oddW], ?_⟩
  simp [oddP, dco, elemR, coL, co1, b3, b5, b8, b11]
theorem podd_sw12 (S : St) (h : OddI 12 S) : V Try.prog podd_k15 (fun e S' => e = .normal ∧ OddQ 12 S') S := by
  obtain ⟨st, s3, s5, s8, s11, a, b, g20, g21, g4, c4, g7, g5, g6, b3, b5, b8, b11⟩ := h
  simp [podd_k0, podd_k1, podd_k2, podd_k3, podd_k4, podd_k5, podd_k6, podd_k7, podd_k8, podd_k9, podd_k10, podd_k11, podd_k12, podd_k13, podd_k14, podd_k15, g21, g20, g4, c4, g7, g5, g6, b3, b5, b8, b11]
  refine ⟨st, .sl 1000027005 s5 2 0 1, .sl 1000027008 s8 4 0 1, .sl 1000027011 s11 3 0 1, iv 10, by simp [g4], by simp [c4], by simp [g7, oddW], ?_⟩
  simp [oddP, dco, elemR, coL, co1, b3, b5, b8, b11]
theorem podd_sw13 (S : St) (h : OddI 13 S) : V Try.prog podd_k15 (fun e S' => e = .normal ∧ OddQ 13 S') S := by
  obtain ⟨st, s3, s5, s8, s11, a, b, g20, g21, g4, c4, g7, g5, g6, b3, b5, b8, b11⟩ := h
  simp [podd_k0, podd_k1, podd_k2, podd_k3, podd_k4, podd_k5, podd_k6, podd_k7, podd_k8, podd_k9, podd_k10, podd_k11, podd_k12, podd_k13, podd_k14, podd_k15, g21, g20, g4, c4, g7, g5, g6, b3, b5, b8, b11]
  refine ⟨st, .sl 1000027005 s5 2 0 1, .sl 1000027008 s8 4 0 1, .sl 1000027011 s11 3 0 1, iv 10, by simp [g4], by simp [c4], by simp [g7, oddW], ?_⟩
  simp [oddP, dco, elemR, coL, co1, b3, b5, b8, b11]
theorem podd_sw14 (S : St) (h : OddI 14 S) : V Try.prog podd_k15 (fun e S' => e = .normal ∧ OddQ 14 S') S := by
  obtain ⟨st, s3, s5, s8, s11, a, b, g20, g21, g4, c4, g7, g5, g6, b3, b5, b8, b11⟩ := h
  simp [podd_k0, podd_k1, podd_k2, podd_k3, podd_k4, podd_k5, podd_k6, podd_k7, podd_k8, podd_k9, podd_k10, podd_k11, podd_k12, podd_k13, podd_k14, podd_k15, g21, g20, g4, c4, g7, g5, g6, b3, b5, b8, b11]
  refine ⟨st, .sl 1000027005 s5 2 0 1, .sl 1000027008 s8 4 0 1, .sl 1000027011 s11 3 0 1, iv 10, by simp [g4], by simp [c4], by simp [g7, oddW], ?_⟩
  simp [oddP, dco, elemR, coL, co1, b3, b5, b8, b11]
theorem podd_sw15 (S : St) (h : OddI 15 S) : V Try.prog podd_k15 (fun e S' => e = .normal ∧ OddQ 15 S') S := by
  obtain ⟨st, s3, s5, s8, s11, a, b, g20, g21, g4, c4, g7, g5, g6, b3, b5, b8, b11⟩ := h
  simp [podd_k0, podd_k1, podd_k2, podd_k3, podd_k4, podd_k5, podd_k6, podd_k7, podd_k8, podd_k9, podd_k10, podd_k11, podd_k12, podd_k13, podd_k14, podd_k15, g21, g20, g4, c4, g7, g5, g6, b3, b5, b8, b11]
  refine ⟨st, .sl 1000027005 s5 2 0 1, .sl 1000027008 s8 4 0 1, .sl 1000027011 s11 3 0 1, iv 10, by simp [g4], by simp [c4], by simp [g7, oddW], ?_⟩
  simp [oddP, dco, elemR, coL, co1, b3, b5, b8, b11]
theorem podd_j (k : Int) (j : Nat) (hj : (k.tmod 16 + 16).tmod 16 = j) (hsw : ∀ S, OddI j S → V Try.prog podd_k15 (fun e S' => e = .normal ∧ OddQ j S') S) (hw : checkV (oddP j) = oddW j) : PC Try.prog 5 [iv k] (.bool true) := by
  refine pc_of_get podd_get (by simp) _ (by simp) _ ?_
  unfold podd_c
  simp
  refine call (rnd_pc k 16 (by omega)) (by simp) ?_
  rw [hj]
  simp
  refine oneM_v ?_
  intro S s3 s5 s8 s11 a b ht _ hb hk b3 b5 b8 b11
  simp [ht, b3, b5, b8, b11]
  refine V_cut3 (OddQ j) (hsw _ ⟨5, s3, s5, s8, s11, a, b, by simp, by simp [Int.natCast_eq_zero], by simp, by simp, by simp, by simp, by simp, by simp [b3], by simp [b5], by simp [b8], by simp [b11]⟩) ?_
  rintro S' ⟨st, w1, w2, w3, w4, g4, c4, g7, hco⟩
  simp [g4, c4]
  refine callW (check_pc (oddP j)) 2 ⟨hco, trivial⟩ rfl ?_
  rw [hw]
  simp [g7]
  refine call one_pc (by simp) ?_
  simp
  refine call (check_pc oneP) (by simp) ?_
  rw [show checkV oneP = 0 by decide]
  simp
  refine call awake_pc (by simp) ?_
  simp
theorem progOdd_pc (k : Int) : PC Try.prog 5 [iv k] (.bool true) := by
  obtain ⟨j, hj1, hj⟩ := rnd_cases k 16 (by omega)
  rcases (show j = 0 ∨ j = 1 ∨ j = 2 ∨ j = 3 ∨ j = 4 ∨ j = 5 ∨ j = 6 ∨ j = 7 ∨ j = 8 ∨ j = 9 ∨ j = 10 ∨ j = 11 ∨ j = 12 ∨ j = 13 ∨ j = 14 ∨ j = 15 by omega) with rfl | rfl | rfl | rfl | rfl | rfl | rfl | rfl | rfl | rfl | rfl | rfl | rfl | rfl | rfl | rfl
  · exact podd_j k 0 hj podd_sw0 (by decide)
  · exact podd_j k 1 hj podd_sw1 (by decide)
  · exact podd_j k 2 hj podd_sw2 (by decide)
  · exact podd_j k 3 hj podd_sw3 (by decide)
  · exact podd_j k 4 hj podd_sw4 (by decide)
  · exact podd_j k 5 hj podd_sw5 (by decide)
  · exact podd_j k 6 hj podd_sw6 (by decide)
  · exact podd_j k 7 hj podd_sw7 (by decide)
  · exact podd_j k 8 hj podd_sw8 (by decide)
  · exact podd_j k 9 hj podd_sw9 (by decide)
  · exact podd_j k 10 hj podd_sw10 (by decide)
  · exact podd_j k 11 hj podd_sw11 (by decide)
  · exact podd_j k 12 hj podd_sw12 (by decide)
  · exact podd_j k 13 hj podd_sw13 (by decide)
  · exact podd_j k 14 hj podd_sw14 (by decide)
  · exact podd_j k 15 hj podd_sw15 (by decide)

end Go.Gv

/- Contracts of functions that change memory: what stays. No condition beyond those that each law names. -/
set_option linter.unusedVariables false
set_option linter.unusedSimpArgs false
namespace Go.Gv

/-- But for the names L all is as it was. -/
structure Fr (L : Nat → Bool) (S S' : St) : Prop where
  t : S'.t = S.t
  b : ∀ n, L n = false → S'.blk n = S.blk n
  k : ∀ n, L n = false → S'.tok n = S.tok n
  c : S.clk ≤ S'.clk
theorem Fr.refl (L : Nat → Bool) (S : St) : Fr L S S := ⟨rfl, fun _ _ => rfl, fun _ _ => rfl, Nat.le_refl _⟩
theorem Fr.trans {L : Nat → Bool} {S S' S'' : St} (h : Fr L S S') (k : Fr L S' S'') : Fr L S S'' :=
  ⟨k.t.trans h.t, fun n hn => (k.b n hn).trans (h.b n hn), fun n hn => (k.k n hn).trans (h.k n hn), Nat.le_trans h.c k.c⟩
theorem Fr.mono {L L' : Nat → Bool} (hl : ∀ n, L' n = false → L n = false) {S S' : St} (h : Fr L S S') : Fr L' S S' :=
  ⟨h.t, fun n hn => h.b n (hl n hn), fun n hn => h.k n (hl n hn), h.c⟩

/-- The blocks, tokens and the clock but for the names L (the slots are not looked at). -/
structure Fh (L : Nat → Bool) (S S' : St) : Prop where
  b : ∀ n, L n = false → S'.blk n = S.blk n
  k : ∀ n, L n = false → S'.tok n = S.tok n
  c : S.clk ≤ S'.clk
theorem Fh.refl (L : Nat → Bool) (S : St) : Fh L S S := ⟨fun _ _ => rfl, fun _ _ => rfl, Nat.le_refl _⟩
theorem Fh.trans {L : Nat → Bool} {S S' S'' : St} (h : Fh L S S') (k : Fh L S' S'') : Fh L S S'' :=
  ⟨fun n hn => (k.b n hn).trans (h.b n hn), fun n hn => (k.k n hn).trans (h.k n hn), Nat.le_trans h.c k.c⟩
theorem Fr.h {L : Nat → Bool} {S S' : St} (h : Fr L S S') : Fh L S S' := ⟨h.b, h.k, h.c⟩
theorem Fh.r {L : Nat → Bool} {S S' : St} (h : Fh L S S') (ht : S'.t = S.t) : Fr L S S' := ⟨ht, h.b, h.k, h.c⟩

theorem upd_out {α : Type} {L : Nat → Bool} {n : Nat} (hn : L n = false) {f : Nat → α} {i : Nat} {v : α} (hi : L i = true) : upd f i v n = f n :=
  upd_ne _ _ _ _ (fun e => by subst e; rw [hn] at hi; cases hi)
theorem Fh.step {L : Nat → Bool} {S S' : St} (h : Fh L S S') {t : Nat → AV} {b : Nat → Option Blk} {k : Nat → Option Tok} {c : Nat} (hb : ∀ n, L n = false → b n = S'.blk n) (hk : ∀ n, L n = false → k n = S'.tok n) (hc : S'.clk ≤ c) :
    Fh L S ⟨t, b, k, c⟩ := ⟨fun n hn => (hb n hn).trans (h.b n hn), fun n hn => (hk n hn).trans (h.k n hn), Nat.le_trans h.c hc⟩
theorem Fh.here {L : Nat → Bool} {S : St} {t : Nat → AV} {b : Nat → Option Blk} {k : Nat → Option Tok} {c : Nat} (hb : ∀ n, L n = false → b n = S.blk n) (hk : ∀ n, L n = false → k n = S.tok n) (hc : S.clk ≤ c) :
    Fh L S ⟨t, b, k, c⟩ := (Fh.refl L S).step hb hk hc

section
variable {k : IntKind} {n : Int} {b : Bool} {cs xs : List AV} {s : ByteArray} {nm st sz i off len o : Nat} {f : FuncId} {v : AV}
@[simp] theorem setCells_int : setCells (.int k n) o [v] = v := rfl
@[simp] theorem setCells_bool : setCells (.bool b) o [v] = v := rfl
@[simp] theorem setCells_str : setCells (.str s) o [v] = v := rfl
@[simp] theorem setCells_nils : setCells .nils o [v] = v := rfl
@[simp] theorem setCells_nilp : setCells .nilp o [v] = v := rfl
@[simp] theorem setCells_nilf : setCells .nilf o [v] = v := rfl
@[simp] theorem setCells_lst : setCells (.lst sz xs) o [v] = v := rfl
@[simp] theorem setCells_acc : setCells (.acc nm st sz xs) o [v] = v := rfl
@[simp] theorem setCells_sl : setCells (.sl nm st sz off len) o [v] = v := rfl
@[simp] theorem setCells_ptr : setCells (.ptr nm st sz i off) o [v] = v := rfl
@[simp] theorem setCells_kp : setCells (.kp cs off) o [v] = v := rfl
@[simp] theorem setCells_fn : setCells (.fn f cs) o [v] = v := rfl
end

theorem max_if (p q : Int) : (if q > p then q else p) = max p q := by rw [Int.max_def]; split <;> split <;> omega
theorem min_if (p q : Int) : (if q < p then q else p) = min p q := by rw [Int.min_def]; split <;> split <;> omega
@[simp] theorem mmI_nil (mx : Bool) (k : IntKind) (p : Int) : mmI mx k p [] = some p := rfl
@[simp] theorem mmI_max (k : IntKind) (p q : Int) (l : List AV) : mmI true k p (.int k q :: l) = mmI true k (max p q) l := by simp only [mmI, if_true, max_if]
@[simp] theorem mmI_min (k : IntKind) (p q : Int) (l : List AV) : mmI false k p (.int k q :: l) = mmI false k (min p q) l := by simp only [mmI, if_true, Bool.false_eq_true, if_false, min_if]

/-- The names of one function (or of some that follow one another). -/
def rng (a b : Nat) (n : Nat) : Bool := decide (a ≤ n) && decide (n < b)
end Go.Gv

/- Calls whose arguments are closed but for a coercion in depth (nil for an empty list in a list). -/
namespace Go.Gv
section
variable {E : Env} {B : Nat} {h : Hp} {w : World}
theorem dcl_list {K : Nat → Nat → Option Value} {blk : Nat → Option Blk} {d : Nat} (ih : ∀ (x y : AV) (v : Value), dco blk d x y → Rel E x v → Rel (envK (K)) y v)
    {xs ys : List AV} {b o sz cap : Nat} (f : Nat → Nat → Value) (hcap : xs.length ≤ cap) (hsz : ∀ x ∈ xs, x.cells.length = sz)
    (hk : ∀ i j : Nat, i < xs.length → j < sz → K b (o + i * sz + j) = some (f i j))
    (h1 : ∀ (i : Nat) (x : AV), xs[i]? = some x → ∀ (j : Nat) (y : AV), x.cells[j]? = some y → y.one = true)
    (hr : ∀ (i : Nat) (x : AV), xs[i]? = some x → ∀ (j : Nat) (y : AV), x.cells[j]? = some y → Rel E y (f i j))
    (hc : coL (elemR (dco blk d)) xs ys) : Rel (envK (K)) (.lst sz ys) (.slice (some ⟨b, o, none⟩) xs.length cap) := by
  obtain ⟨e1, e2⟩ := coL_get hc
  have pair : ∀ (i : Nat) (y : AV), ys[i]? = some y → ∃ x, xs[i]? = some x ∧ elemR (dco blk d) x y := by
    intro i y hy
    obtain ⟨x, hx⟩ : ∃ x, xs[i]? = some x := ⟨_, List.getElem?_eq_getElem (by rw [e1]; exact (List.getElem?_eq_some_iff.1 hy).1)⟩
    exact ⟨x, hx, e2 i x y hx hy⟩
  have ones : ∀ (i : Nat) (x : AV), xs[i]? = some x → ∀ z ∈ x.cells, z.one = true := by
    intro i x hx z hz
    obtain ⟨j, hj⟩ := List.getElem?_of_mem hz
    exact h1 i x hx j z hj
  have cell : ∀ (i : Nat) (y : AV), ys[i]? = some y → ∀ (j : Nat) (q : AV), y.cells[j]? = some q → ∃ p x, xs[i]? = some x ∧ x.cells[j]? = some p ∧ dco blk d p q := by
    intro i y hy j q hq
    obtain ⟨x, hx, hxy⟩ := pair i y hy
    obtain ⟨c1, c2⟩ := elemR_cells hxy (ones i x hx)
    obtain ⟨p, hp⟩ : ∃ p, x.cells[j]? = some p := ⟨_, List.getElem?_eq_getElem (by rw [c1]; exact (List.getElem?_eq_some_iff.1 hq).1)⟩
    exact ⟨p, x, hx, hp, c2 j p q hp hq⟩
  rw [e1]
  refine Rel.lst ys b o sz cap f (by rw [← e1]; exact hcap) ?_ ?_ ?_ ?_
  · intro y hy
    obtain ⟨i, hi⟩ := List.getElem?_of_mem hy
    obtain ⟨x, hx, hxy⟩ := pair i y hi
    rw [← (elemR_cells hxy (ones i x hx)).1]
    exact hsz x (List.mem_of_getElem? hx)
  · intro i j hi hj
    exact hk i j (by rw [e1]; exact hi) hj
  · intro i y hy j q hq
    obtain ⟨p, x, hx, hp, hpq⟩ := cell i y hy j q hq
    exact dco_one d hpq (h1 i x hx j p hp)
  · intro i y hy j q hq
    obtain ⟨p, x, hx, hp, hpq⟩ := cell i y hy j q hq
    exact ih p q _ hpq (hr i x hx j p hp)


theorem dcc_rel : ∀ (d : Nat) (x y : AV) (v : Value), dco (fun _ => none) d x y → (∀ b o u, E.K b o = some u → w.cell? ⟨b, o, none⟩ = some u) → Rel E x v → Rel (envK E.K) y v := by
  have base : ∀ (x y : AV) (v : Value), co1 none x y → (∀ b o u, E.K b o = some u → w.cell? ⟨b, o, none⟩ = some u) → Rel E x v → Rel (envK E.K) y v := by
    intro x y v hc hK hr
    have H : HConc E w.heap.size ⟨fun _ => none, fun _ => none⟩ w := ⟨hK, by simp, by simp, by simp, by simp, by simp, by simp, by simp⟩
    exact co1_rel H (K := E.K) ⟨fun _ _ _ q => q, by simp⟩ (by simp) hc hr
  have lsts : ∀ (d : Nat), (∀ (x y : AV) (v : Value), dco (fun _ => none) d x y → Rel E x v → Rel (envK E.K) y v) → ∀ (s : Nat) (xs ys : List AV) (v : Value), Rel E (.lst s xs) v → (xs = ys ∨ coL (elemR (dco (fun _ => none) d)) xs ys) → Rel (envK E.K) (.lst s ys) v := by
    intro d ih s xs ys v hr hc
    rcases hc with rfl | hc
    · exact lst_envK (K := E.K) (fun _ _ _ q => q) hr
    · cases hr with
      | lst0 _ a cap =>
        cases ys with
        | nil => exact .lst0 _ _ _
        | cons y ys => exact hc.elim
      | lst _ b o _ cap f hcap hsz hk h1 hr =>
        exact dcl_list ih f hcap hsz hk h1 (fun i x hx j y hy => (hr i x hx j y hy).mono (Env.cl_le E)) hc
  intro d
  induction d with
  | zero => exact base
  | succ d ih =>
    intro x y v hc hK hr
    have ih' := fun (x y : AV) (v : Value) q r => ih x y v q hK r
    unfold dco at hc
    split at hc
    · subst hc; rw [hr.nils_inv]; exact .lst0 _ _ _
    · obtain ⟨rfl, hc⟩ := hc
      exact lsts d ih' _ _ _ v hr hc
    · obtain ⟨rfl, hc⟩ := hc
      cases hr with
      | acc _ _ _ _ _ _ _ hl => exact lsts d ih' _ _ _ v hl hc
    · obtain ⟨_, es, hes, _⟩ := hc
      exact absurd hes (by simp [getB])
    · exact base x y v hc hK hr
theorem dccE_rel (d : Nat) (x y : AV) (v : Value) (hc : elemR (dco (fun _ => none) d) x y) (hK : ∀ b o u, E.K b o = some u → w.cell? ⟨b, o, none⟩ = some u) (hr : Rel E x v) : Rel (envK E.K) y v := by
  unfold elemR at hc
  split at hc
  · rename_i xs ys
    obtain ⟨e1, e2⟩ := coL_get hc
    cases hr with
    | agg _ vs hs h1 hr =>
      have pair : ∀ (j : Nat) (y : AV), ys[j]? = some y → ∃ x, xs[j]? = some x ∧ dco (fun _ => none) d x y := by
        intro j y hy
        obtain ⟨x, hx⟩ : ∃ x, xs[j]? = some x := ⟨_, List.getElem?_eq_getElem (by rw [e1]; exact (List.getElem?_eq_some_iff.1 hy).1)⟩
        exact ⟨x, hx, e2 j x y hx hy⟩
      refine .agg ys vs (by rw [← e1]; exact hs) (fun j y hy => ?_) (fun j y u hy hu => ?_)
      · obtain ⟨x, hx, hxy⟩ := pair j y hy
        exact dco_one d hxy (h1 j x hx)
      · obtain ⟨x, hx, hxy⟩ := pair j y hy
        exact dcc_rel d x y u hxy hK (hr j x u hx hu)
  · exact dcc_rel d _ _ v hc hK hr
end
theorem pcall_deep {P : Program} {f : FuncId} {cargs : List AV} {r : AV} (h : PC P f cargs r) (d : Nat) {caps vals : List AV} (hco : coL (elemR (dco (fun _ => none) d)) (vals ++ caps) cargs) : PCallP P (.fn f caps) vals r := by
  obtain ⟨hent, hc⟩ := h
  refine ⟨f, caps, rfl, hent, fun E w args hK hsz hrel => ?_⟩
  obtain ⟨e1, e2⟩ := coL_get hco
  refine hc E.K w args hK (by rw [hsz, e1]) ?_
  intro j y u hy hu
  obtain ⟨x, hx⟩ : ∃ x, (vals ++ caps)[j]? = some x := ⟨_, List.getElem?_eq_getElem (by rw [e1]; exact (List.getElem?_eq_some_iff.1 hy).1)⟩
  exact dccE_rel (w := w) d x y u (e2 j x y hx hy) hK (hrel j x u hx hu)
/-- A call whose arguments fit in depth d. -/
theorem callC {P : Program} {f : FuncId} {cargs : List AV} {r : AV} (h : PC P f cargs r) (d : Nat) {caps vals : List AV} {S : St} {k : AV → St → Prop} {u : Dep k} (hco : coL (elemR (dco (fun _ => none) d)) (vals ++ caps) cargs) (hk : k r S) : CallG P (.fn f caps) vals S k u :=
  CallP_of_PCallP (pcall_deep h d hco) hk
theorem calldC {P : Program} {f : FuncId} {cargs : List AV} {r : AV} (h : PC P f cargs r) (d : Nat) {caps vals : List AV} {k : AV → Prop} {u : Dep k} (hco : coL (elemR (dco (fun _ => none) d)) (vals ++ caps) cargs) (hk : k r) : callD P (.fn f caps) vals k u :=
  ⟨r, pcall_deep h d hco, hk⟩
end Go.Gv

/- Drawn regions whose last operation waits for all others, and may change memory. No condition beyond those that each law names. -/
set_option linter.unusedVariables false
set_option linter.unusedSimpArgs false
namespace Go.Gv
theorem drawn_step {P : Program} {pre : List (List Nat)} {st0 : Nat} {ais : List AI} {es : List Eff} {S0 : St} {k : St → Prop} (hS : Shown P pre st0 ais es S0 k) (D : Nat → Bool)
    (hcl : ∀ i, D i = true → ∀ p ∈ pre.getD i [], D p = true) (j : Nat) (ai : AI) (hai : ais[j]? = some ai) (hjf : D j = false) (hpreD : ∀ p ∈ pre.getD j [], D p = true) :
    ∃ e : Eff, stepV P (st0 + j) ai (foldS D 0 (ais.zip es) S0) (fun S' => S' = foldS (fun i => (i == j) || D i) 0 (ais.zip es) S0) := by
  have hjl : j < ais.length := (List.getElem?_eq_some_iff.1 hai).1
  obtain ⟨e, he⟩ : ∃ e, es[j]? = some e := ⟨_, List.getElem?_eq_getElem (by rw [hS.len]; omega)⟩
  have hout := hS.out j ai e hai he
  have getz : ∀ (m : Nat) (p : AI × Eff), (ais.zip es)[m]? = some p → ais[m]? = some p.1 ∧ es[m]? = some p.2 := by
    intro m p hp
    rw [List.getElem?_zip_eq_some] at hp
    exact hp
  have apartAt : ∀ (m : Nat) (p : AI × Eff), (ais.zip es)[m]? = some p → m ≠ j → (D m ≠ decide (m < j)) →
      Apart p.1 ai (fpOf (foldS (fun i => decide (i < m)) 0 (ais.zip es) S0).t p.1 p.2) (fpOf (foldS (fun i => decide (i < j)) 0 (ais.zip es) S0).t ai e) ∨
      Apart ai p.1 (fpOf (foldS (fun i => decide (i < j)) 0 (ais.zip es) S0).t ai e) (fpOf (foldS (fun i => decide (i < m)) 0 (ais.zip es) S0).t p.1 p.2) := by
    intro m p hp hne hdiff
    obtain ⟨g1, g2⟩ := getz m p hp
    rcases Nat.lt_or_gt_of_ne hne with hlt | hgt
    · refine .inl (hS.apart m j p.1 ai p.2 e hlt g1 hai g2 he (fun q => ?_))
      rw [hpreD m q] at hdiff
      simp [hlt] at hdiff
    · refine .inr (hS.apart j m ai p.1 e p.2 hgt hai g1 he g2 (fun q => ?_))
      have hm : D m = true := by
        cases hx : D m with
        | true => rfl
        | false => rw [hx] at hdiff; simp at hdiff; omega
      have := hcl m hm j q
      rw [hjf] at this; cases this
  have hdif : ∀ m, m ≠ j → decide (decide (m < j) = D m) = false → D m ≠ decide (m < j) := by
    intro m _ hq
    simp only [decide_eq_false_iff_not] at hq; exact fun q => hq q.symm
  have hout' : Out P (foldS D 0 (ais.zip es) S0) (st0 + j) ai e := by
    refine hout.congr ?_ ?_ ?_
    · intro x hx
      refine agree_t x _ 0 _ _ rfl (fun m p hp hd => ?_)
      simp only [Nat.zero_add]
      by_cases hm : m = j
      · subst hm; rw [hjf]; simp
      · cases hq : decide (decide (m < j) = D m) with
        | true => simpa using hq
        | false =>
          rcases apartAt m p hp hm (hdif m hm hq) with q | q
          · exact absurd hx (q.s1 x hd)
          · exact absurd hx (q.s3 x hd)
    · intro x hx
      refine agree_b x _ 0 _ _ rfl (fun m p hp hd => ?_)
      simp only [Nat.zero_add]
      by_cases hm : m = j
      · subst hm; rw [hjf]; simp
      · cases hq : decide (decide (m < j) = D m) with
        | true => simpa using hq
        | false =>
          rcases apartAt m p hp hm (hdif m hm hq) with q | q
          · exact absurd hx (disj_mem q.b1 hd)
          · exact absurd hd (disj_mem q.b3 hx)
    · intro x hx
      refine agree_k x _ 0 _ _ rfl (fun m p hp hd => ?_)
      simp only [Nat.zero_add]
      by_cases hm : m = j
      · subst hm; rw [hjf]; simp
      · cases hq : decide (decide (m < j) = D m) with
        | true => simpa using hq
        | false =>
          rcases apartAt m p hp hm (hdif m hm hq) with q | q
          · exact absurd hx (disj_mem q.t1 hd)
          · exact absurd hd (disj_mem q.t3 hx)
  have hins : (foldS D 0 (ais.zip es) S0).app ai.dst e = foldS (fun i => (i == j) || D i) 0 (ais.zip es) S0 := by
    refine foldS_insert j ai e hjf (by simp) (fun i hi => by simp [hi]) _ 0 S0 (Nat.zero_le _) ?_ ?_
    · rw [Nat.sub_zero, List.getElem?_zip_eq_some]; exact ⟨hai, he⟩
    · intro m p hm hD hp
      rw [Nat.sub_zero] at hp
      obtain ⟨g1, g2⟩ := getz m p hp
      have hapm := hS.apart j m ai p.1 e p.2 hm hai g1 he g2 (fun q => by have := hcl m hD j q; rw [hjf] at this; cases this)
      exact ⟨hapm.s2, hapm.b2, hapm.t2⟩
  refine ⟨e, ?_⟩
  rw [← hins]
  unfold Out at hout'
  unfold stepV
  split at hout'
  · rename_i b hb
    simp only [hb]
    split at hout'
    · rename_i hbt
      rw [if_pos hbt]
      unfold runV
      cases hk : ai.k with
      | op ao => rw [hk] at hout'; simp only at hout' ⊢; rw [hout']
      | nq kd neg x => rw [hk] at hout'; simp only at hout' ⊢; rw [hout']
      | call fx l =>
        rw [hk] at hout'
        simp only at hout' ⊢
        obtain ⟨r, hr, rfl⟩ := hout'
        refine CallP_of_PCallP hr ?_
        cases ai.dst <;> rfl
    · rename_i hbt
      rw [if_neg hbt, hout']
      cases ai.dst <;> rfl
  · exact hout'.elim

theorem regI_last {P : Program} {pre : List (List Nat)} {st0 : Nat} {ops : List AI} {last : AI} {k : St → Prop} {S0 : St} (hp : ((List.range ops.length).all fun i => (pre.getD ops.length []).contains i) = true)
    (h : regDV P pre st0 0 ops [] (fun S' => stepV P (st0 + ops.length) last S' k) S0) : regI P pre st0 (ops ++ [last]) k S0 := by
  obtain ⟨es, hS⟩ := shown_of P pre st0 S0 _ ops [] [] [] S0 rfl rfl rfl (by simp) (by simp) (by simp) (by simpa using h)
  simp only [List.nil_append] at hS
  have hpn : ∀ i, i < ops.length → i ∈ pre.getD ops.length [] := by
    intro i hi
    have := List.all_eq_true.1 hp i (List.mem_range.2 hi)
    simpa using this
  refine ⟨fun D S => (D ops.length = false ∧ S = foldS D 0 (ops.zip es) S0) ∨ (D ops.length = true ∧ k S), .inl ⟨rfl, (foldS_none _ _ _ (fun _ _ => rfl)).symm⟩, ?_, ?_⟩
  · intro D S' j ai hj hDj hpre hcl hI
    by_cases hjl : j < ops.length
    · rw [List.getElem?_append_left hjl] at hj
      rcases hI with ⟨h1, rfl⟩ | ⟨h1, h2⟩
      · obtain ⟨e, hs⟩ := drawn_step hS D hcl j ai hj hDj hpre
        refine stepV_mono ?_ hs
        rintro S'' rfl
        refine .inl ⟨?_, rfl⟩
        simp [h1]; omega
      · have := hcl _ h1 j (hpn j hjl)
        rw [hDj] at this; cases this
    · have hjn : j = ops.length := by
        have := (List.getElem?_eq_some_iff.1 hj).1
        simp at this; omega
      subst hjn
      rw [List.getElem?_append_right (Nat.le_refl _)] at hj
      simp at hj
      subst hj
      rcases hI with ⟨h1, rfl⟩ | ⟨h1, h2⟩
      · have e : foldS D 0 (ops.zip es) S0 = foldS (fun _ => true) 0 (ops.zip es) S0 := foldS_congr _ _ _ (fun i _ hi => by
          simp [hS.len] at hi
          exact hpre i (hpn i hi))
        rw [e]
        exact stepV_mono (fun S'' q => .inr ⟨by simp, q⟩) hS.fin
      · rw [hDj] at h1; cases h1
  · intro D S' hD hI
    rcases hI with ⟨h1, _⟩ | ⟨_, h2⟩
    · have := hD ops.length (by simp)
      rw [h1] at this; cases this
    · exact h2
/-- The rule, for a walk: the last operation by itself behind the others. -/
theorem regi_last {P : Program} {pre : List (List Nat)} {st0 : Nat} {all : List AI} {S0 : St} {k : St → Prop} {u : Dep k} (ops : List AI) (last : AI) (he : all = ops ++ [last])
    (hp : ((List.range ops.length).all fun i => (pre.getD ops.length []).contains i) = true) (h : regDG P pre st0 0 ops [] S0 (fun S' => regG P (st0 + ops.length) [last] S' k .mk) .mk) : regIG P pre st0 all S0 k u := by
  subst he
  exact regI_last hp h
theorem regi_end {P : Program} {pre : List (List Nat)} {st0 : Nat} {all : List AI} {S0 : St} {k : St → Prop} {u : Dep k} (hne : all ≠ [])
    (hp : ((List.range (all.length - 1)).all fun i => (pre.getD (all.length - 1) []).contains i) = true) (h : regDG P pre st0 0 all.dropLast [] S0 (fun S' => regG P (st0 + (all.length - 1)) [all.getLast hne] S' k .mk) .mk) : regIG P pre st0 all S0 k u :=
  regi_last all.dropLast (all.getLast hne) (List.dropLast_concat_getLast hne).symm (by rw [List.length_dropLast]; exact hp) (by rw [List.length_dropLast]; exact h)

/-! ### Regions by an invariant -/

/-- The slots that are written, each with what it comes to: those of the done ones hold it. -/
def SF (tbl : List (Nat × AV)) (D : Nat → Bool) (S : St) : Prop := ∀ (j d : Nat) (v : AV), tbl[j]? = some (d, v) → D j = true → S.t d = v
theorem SF.start (tbl : List (Nat × AV)) (S : St) : SF tbl (fun _ => false) S := fun _ _ _ _ h => by cases h
theorem SF.ins {tbl : List (Nat × AV)} {D : Nat → Bool} {S S' : St} (h : SF tbl D S) (hn : (tbl.map (·.1)).Nodup) {j d : Nat} {v : AV} (hj : tbl[j]? = some (d, v)) (hd : S'.t d = v) (ho : ∀ x, x ≠ d → S'.t x = S.t x) : SF tbl (fun i => (i == j) || D i) S' := by
  intro j' d' v' h' hD
  by_cases e : j' = j
  · subst e
    rw [hj] at h'; cases h'
    exact hd
  · have hD' : D j' = true := by simpa [e] using hD
    rw [ho d' ?_]
    · exact h j' d' v' h' hD'
    · rintro rfl
      have e1 : (tbl.map (·.1))[j]? = some d' := by rw [List.getElem?_map, hj]; rfl
      have e2 : (tbl.map (·.1))[j']? = some d' := by rw [List.getElem?_map, h']; rfl
      obtain ⟨l1, q1⟩ := List.getElem?_eq_some_iff.1 e1
      obtain ⟨l2, q2⟩ := List.getElem?_eq_some_iff.1 e2
      rcases Nat.lt_or_gt_of_ne e with hlt | hgt
      · exact List.pairwise_iff_getElem.1 hn j' j l2 l1 hlt (by rw [q1, q2])
      · exact List.pairwise_iff_getElem.1 hn j j' l1 l2 hgt (by rw [q1, q2])
theorem SF.keep {tbl : List (Nat × AV)} {D : Nat → Bool} {S S' : St} (h : SF tbl D S) {j : Nat} (hj : tbl[j]? = none) (ho : S'.t = S.t) : SF tbl (fun i => (i == j) || D i) S' := by
  intro j' d' v' h' hD
  by_cases e : j' = j
  · subst e; rw [hj] at h'; cases h'
  · rw [ho]; exact h j' d' v' h' (by simpa [e] using hD)
theorem stepV_op {P : Program} {st : Nat} {d : Option Nat} {op : AOp} {S : St} {k : St → Prop} (e : Eff) (h : ex S.t S.blk S.tok st op = some e) (hk : k (S.app d e)) : stepV P st ⟨d, none, .op op⟩ S k := by
  simp only [stepV, guardV, if_true, runV, h]
  exact hk
theorem stepV_call {P : Program} {st : Nat} {d : Option Nat} {fx : X} {l : List X} {S : St} {k : St → Prop} (h : CallG P (fx.ev S.t) (l.map (·.ev S.t)) S (fun r S' => k (S'.put d r)) .mk) : stepV P st ⟨d, none, .call fx l⟩ S k := by
  simp only [stepV, guardV, if_true, runV]
  exact h
end Go.Gv

/- All that is known at a point may be taken as fixed from there on: mutable blocks become plain lists. No condition beyond those that each law names. -/
set_option linter.unusedVariables false
set_option linter.unusedSimpArgs false
namespace Go.Gv
section
variable {E : Env} {B : Nat} {h : Hp} {w : World}

/-- A list's elements, one by one. -/
theorem dcoK_list {K : Nat → Nat → Option Value} {blk : Nat → Option Blk} {d : Nat} (ih : ∀ (x y : AV) (v : Value), dco blk d x y → Rel E x v → Rel (envK K) y v)
    {xs ys : List AV} {b o sz cap : Nat} (f : Nat → Nat → Value) (hcap : xs.length ≤ cap) (hsz : ∀ x ∈ xs, x.cells.length = sz)
    (hk : ∀ i j : Nat, i < xs.length → j < sz → K b (o + i * sz + j) = some (f i j))
    (h1 : ∀ (i : Nat) (x : AV), xs[i]? = some x → ∀ (j : Nat) (y : AV), x.cells[j]? = some y → y.one = true)
    (hr : ∀ (i : Nat) (x : AV), xs[i]? = some x → ∀ (j : Nat) (y : AV), x.cells[j]? = some y → Rel E y (f i j))
    (hc : coL (elemR (dco blk d)) xs ys) : Rel (envK K) (.lst sz ys) (.slice (some ⟨b, o, none⟩) xs.length cap) := by
  obtain ⟨e1, e2⟩ := coL_get hc
  have pair : ∀ (i : Nat) (y : AV), ys[i]? = some y → ∃ x, xs[i]? = some x ∧ elemR (dco blk d) x y := by
    intro i y hy
    obtain ⟨x, hx⟩ : ∃ x, xs[i]? = some x := ⟨_, List.getElem?_eq_getElem (by rw [e1]; exact (List.getElem?_eq_some_iff.1 hy).1)⟩
    exact ⟨x, hx, e2 i x y hx hy⟩
  have ones : ∀ (i : Nat) (x : AV), xs[i]? = some x → ∀ z ∈ x.cells, z.one = true := by
    intro i x hx z hz
    obtain ⟨j, hj⟩ := List.getElem?_of_mem hz
    exact h1 i x hx j z hj
  have cell : ∀ (i : Nat) (y : AV), ys[i]? = some y → ∀ (j : Nat) (q : AV), y.cells[j]? = some q → ∃ p x, xs[i]? = some x ∧ x.cells[j]? = some p ∧ dco blk d p q := by
    intro i y hy j q hq
    obtain ⟨x, hx, hxy⟩ := pair i y hy
    obtain ⟨c1, c2⟩ := elemR_cells hxy (ones i x hx)
    obtain ⟨p, hp⟩ : ∃ p, x.cells[j]? = some p := ⟨_, List.getElem?_eq_getElem (by rw [c1]; exact (List.getElem?_eq_some_iff.1 hq).1)⟩
    exact ⟨p, x, hx, hp, c2 j p q hp hq⟩
  rw [e1]
  refine Rel.lst ys b o sz cap f (by rw [← e1]; exact hcap) ?_ ?_ ?_ ?_
  · intro y hy
    obtain ⟨i, hi⟩ := List.getElem?_of_mem hy
    obtain ⟨x, hx, hxy⟩ := pair i y hi
    rw [← (elemR_cells hxy (ones i x hx)).1]
    exact hsz x (List.mem_of_getElem? hx)
  · intro i j hi hj
    exact hk i j (by rw [e1]; exact hi) hj
  · intro i y hy j q hq
    obtain ⟨p, x, hx, hp, hpq⟩ := cell i y hy j q hq
    exact dco_one d hpq (h1 i x hx j p hp)
  · intro i y hy j q hq
    obtain ⟨p, x, hx, hp, hpq⟩ := cell i y hy j q hq
    exact ih p q _ hpq (hr i x hx j p hp)

theorem dcoK_rel {K : Nat → Nat → Option Value} (H : HConc E B h w) (kn1 : Knows E B w K true) : ∀ (d : Nat) (x y : AV) (v : Value), dco h.blk d x y → Rel E x v → Rel (envK K) y v := by
  have kn : Knows E B w K (none : Option (Nat → Option Blk)).isSome := ⟨kn1.K, by simp⟩
  have base : ∀ (x y : AV) (v : Value), co1 none x y → Rel E x v → Rel (envK K) y v := fun x y v hc hr => co1_rel H kn (by simp) hc hr
  have lsts : ∀ (d : Nat), (∀ (x y : AV) (v : Value), dco h.blk d x y → Rel E x v → Rel (envK K) y v) → ∀ (s : Nat) (xs ys : List AV) (v : Value), Rel E (.lst s xs) v → (xs = ys ∨ coL (elemR (dco h.blk d)) xs ys) → Rel (envK K) (.lst s ys) v := by
    intro d ih s xs ys v hr hc
    rcases hc with rfl | hc
    · exact lst_envK (K := K) kn1.K hr
    · cases hr with
      | lst0 _ a cap =>
        cases ys with
        | nil => exact .lst0 _ _ _
        | cons y ys => exact hc.elim
      | lst _ b o _ cap f hcap hsz hk h1 hr =>
        exact dcoK_list ih f hcap hsz (fun i j hi hj => kn1.K _ _ _ (hk i j hi hj)) h1 (fun i x hx j y hy => (hr i x hx j y hy).mono (Env.cl_le E)) hc
  intro d
  induction d with
  | zero => exact base
  | succ d ih =>
    intro x y v hc hr
    unfold dco at hc
    split at hc
    · subst hc; rw [hr.nils_inv]; exact .lst0 _ _ _
    · obtain ⟨rfl, hc⟩ := hc
      exact lsts d ih _ _ _ v hr hc
    · obtain ⟨rfl, hc⟩ := hc
      cases hr with
      | acc _ _ _ _ _ _ _ hl => exact lsts d ih _ _ _ v hl hc
    · rename_i nm st s off len s' ys
      obtain ⟨rfl, es, hes, hle, hc⟩ := hc
      have hbs := getB_some hes
      have hbk := H.bk nm _ hbs
      obtain ⟨cur, e, hg, hsz, hrow⟩ := hbk.row
      simp only at hg hsz hrow
      cases hr with
      | sl _ _ _ _ _ cap a hu hcap hc' ha =>
        have hlen : ((es.drop off).take len).length = len := by simp; omega
        by_cases hl0 : len = 0
        · subst hl0
          rw [List.take_zero] at hc
          cases ys with
          | nil => exact .lst0 _ _ _
          | cons y ys => exact hc.elim
        · rw [ha (by omega)]
          have hidx : ∀ (i : Nat) (z : AV), ((es.drop off).take len)[i]? = some z → i < len ∧ es[off + i]? = some z := by
            intro i z hz
            rw [List.getElem?_take] at hz
            split at hz
            · rename_i hi; rw [List.getElem?_drop] at hz; exact ⟨hi, hz⟩
            · cases hz
          have hel : ∀ z ∈ (es.drop off).take len, ElemOk s z := fun z hz => hbk.el z (List.mem_of_mem_drop (List.mem_of_mem_take hz))
          have cell : ∀ (i : Nat) (z : AV), ((es.drop off).take len)[i]? = some z → ∀ (j : Nat) (q : AV), z.cells[j]? = some q →
              ∃ u, w.cell? ⟨(E.m st).1, (E.m st).2 + off * s + i * s + j, none⟩ = some u ∧ Rel E q u := by
            intro i z hz j q hq
            obtain ⟨hi, hz'⟩ := hidx i z hz
            obtain ⟨u, hu', hrel⟩ := hrow (off + i) z hz' j q hq
            refine ⟨u, ?_, hrel⟩
            rw [show (E.m st).2 + off * s + i * s + j = (E.m st).2 + (off + i) * s + j by rw [Nat.add_mul]; omega, cell_of_row w _ _ cur e (0, 0) hg]
            exact hu'
          have := dcoK_list (b := (E.m st).1) (o := (E.m st).2 + off * s) (sz := s) (cap := cap) ih (fun i j => (w.cell? ⟨(E.m st).1, (E.m st).2 + off * s + i * s + j, none⟩).getD .nilFunc) (by rw [hlen]; exact hcap) (fun z hz => (hel z hz).1) ?_ ?_ ?_ hc
          · rw [hlen] at this; exact this
          · intro i j hi hj
            obtain ⟨z, hz⟩ : ∃ z, ((es.drop off).take len)[i]? = some z := ⟨_, List.getElem?_eq_getElem hi⟩
            obtain ⟨q, hq⟩ : ∃ q, z.cells[j]? = some q := ⟨_, List.getElem?_eq_getElem (by rw [(hel z (List.mem_of_getElem? hz)).1]; exact hj)⟩
            obtain ⟨u, hu', _⟩ := cell i z hz j q hq
            rw [hu']; exact kn1.rest rfl _ _ _ hbk.base hu'
          · intro i z hz j q hq
            exact (hel z (List.mem_of_getElem? hz)).2 q (List.mem_of_getElem? hq)
          · intro i z hz j q hq
            obtain ⟨u, hu', hrel⟩ := cell i z hz j q hq
            rw [hu']
            exact hrel
    · exact base x y v hc hr
theorem dcoKE_rel {K : Nat → Nat → Option Value} (H : HConc E B h w) (kn1 : Knows E B w K true) (d : Nat) (x y : AV) (v : Value) (hc : elemR (dco h.blk d) x y) (hr : Rel E x v) : Rel (envK K) y v := by
  unfold elemR at hc
  split at hc
  · rename_i xs ys
    obtain ⟨e1, e2⟩ := coL_get hc
    cases hr with
    | agg _ vs hs h1 hr =>
      have pair : ∀ (j : Nat) (y : AV), ys[j]? = some y → ∃ x, xs[j]? = some x ∧ dco h.blk d x y := by
        intro j y hy
        obtain ⟨x, hx⟩ : ∃ x, xs[j]? = some x := ⟨_, List.getElem?_eq_getElem (by rw [e1]; exact (List.getElem?_eq_some_iff.1 hy).1)⟩
        exact ⟨x, hx, e2 j x y hx hy⟩
      refine .agg ys vs (by rw [← e1]; exact hs) (fun j y hy => ?_) (fun j y u hy hu => ?_)
      · obtain ⟨x, hx, hxy⟩ := pair j y hy
        exact dco_one d hxy (h1 j x hx)
      · obtain ⟨x, hx, hxy⟩ := pair j y hy
        exact dcoK_rel H kn1 d x y u hxy (hr j x u hx hu)
  · exact dcoK_rel H kn1 d _ _ v hc hr
end
/-- What a value becomes where all is fixed. -/
def Frz (blk : Nat → Option Blk) (d : Nat) (x y : AV) : Prop :=
  y = .junk ∨ elemR (dco blk d) x y ∨ ∃ nm st sz i off es e cs, x = .ptr nm st sz i off ∧ blk nm = some ⟨st, sz, es⟩ ∧ es[i]? = some e ∧ coL (dco blk d) e.cells cs ∧ y = .kp cs off
theorem wk_freeze {S : St} (d : Nat) (T : Nat → AV) (hT : ∀ t, Frz S.blk d (S.t t) (T t)) : Wk S ⟨T, fun _ => none, fun _ => none, S.clk⟩ := by
  refine ⟨Nat.le_refl _, fun E B w H hu => ?_⟩
  let K : Nat → Nat → Option Value := fun b o => if b < B then E.K b o else w.cell? ⟨b, o, none⟩
  have hK : ∀ b o u, E.K b o = some u → K b o = some u := by
    intro b o u q
    show (if b < B then E.K b o else w.cell? ⟨b, o, none⟩) = some u
    split
    · exact q
    · exact H.K b o u q
  have hrest : ∀ b o u, B ≤ b → w.cell? ⟨b, o, none⟩ = some u → K b o = some u := by
    intro b o u hb q
    show (if b < B then E.K b o else w.cell? ⟨b, o, none⟩) = some u
    rw [if_neg (by omega)]; exact q
  have hin : ∀ b o u, K b o = some u → w.cell? ⟨b, o, none⟩ = some u := by
    intro b o u q
    have q' : (if b < B then E.K b o else w.cell? ⟨b, o, none⟩) = some u := q
    split at q'
    · exact H.K b o u q'
    · exact q'
  have kn : Knows E B w K true := ⟨hK, fun _ => hrest⟩
  refine ⟨{ E with K := K }, ⟨hK, fun _ _ => rfl, fun _ _ => rfl, fun _ _ => rfl, fun _ q => q⟩, ⟨hin, fun nm b q => (by cases q), fun nm b q => (by cases q), fun nm b q => (by cases q), fun nm b q => (by cases q), fun nm nm' b b' _ q => (by cases q), fun nm nm' b t q => (by cases q), fun nm nm' t t' g _ q => (by cases q)⟩, fun b o hb => ?_, fun _ q => q, fun t v hr => ?_⟩
  · show (if b < B then E.K b o else w.cell? ⟨b, o, none⟩) = E.K b o
    rw [if_pos hb]
  · show Rel { E with K := K } (T t) v
    rcases hT t with q | q | ⟨nm, st, sz, i, off, es, e, cs, hx, hb, he, hc, hy⟩
    · rw [q]; exact .junk v
    · exact Rel.of_envK (K := K) (dcoKE_rel H kn d _ _ v q hr) (fun _ _ _ q => q)
    · rw [hx] at hr
      rw [hy]
      have hbk := H.bk nm _ hb
      obtain ⟨cur, c, hg, hsz, hrow⟩ := hbk.row
      simp only at hg hsz hrow
      cases hr with
      | ptr _ _ _ _ _ hu' =>
        obtain ⟨e1, e2⟩ := coL_get hc
        have hel := hbk.el e (List.mem_of_getElem? he)
        have cell : ∀ (j : Nat) (p : AV), e.cells[j]? = some p → ∃ u, w.cell? ⟨(E.m st).1, (E.m st).2 + i * sz + j, none⟩ = some u ∧ Rel E p u := by
          intro j p hp
          obtain ⟨u, hu1, hu2⟩ := hrow i e he j p hp
          refine ⟨u, ?_, hu2⟩
          rw [cell_of_row w _ _ cur c (0, 0) hg]
          exact hu1
        have pair : ∀ (j : Nat) (y : AV), cs[j]? = some y → ∃ p, e.cells[j]? = some p ∧ dco S.h.blk d p y := by
          intro j y hy
          obtain ⟨p, hp⟩ : ∃ p, e.cells[j]? = some p := ⟨_, List.getElem?_eq_getElem (by rw [e1]; exact (List.getElem?_eq_some_iff.1 hy).1)⟩
          exact ⟨p, hp, e2 j p y hp hy⟩
        refine .kp cs off _ _ (fun j => (w.cell? ⟨(E.m st).1, (E.m st).2 + i * sz + j, none⟩).getD .nilFunc) (fun j hj => ?_) (fun j y hy => ?_) (fun j y hy => ?_)
        · obtain ⟨p, hp⟩ : ∃ p, e.cells[j]? = some p := ⟨_, List.getElem?_eq_getElem (by rw [e1]; exact hj)⟩
          obtain ⟨u, hu1, _⟩ := cell j p hp
          rw [hu1]
          exact hrest _ _ _ hbk.base hu1
        · obtain ⟨p, hp, hpy⟩ := pair j y hy
          exact dco_one d hpy (hel.2 p (List.mem_of_getElem? hp))
        · obtain ⟨p, hp, hpy⟩ := pair j y hy
          obtain ⟨u, hu1, hu2⟩ := cell j p hp
          rw [hu1]
          exact Rel.of_envK (K := K) (dcoK_rel H kn d p y u hpy hu2) (fun _ _ _ q => q)
end Go.Gv
