/- Texts of this proof, one behind the other. What is proved, and on which conditions, stands ahead of each. -/
import Derived.Test.YthhgjncefjnogaaProg
import Derived.Test.YthhgjncefjnogaaM97f9b44

/- The law ProgOdd answers true. No condition. -/
set_option linter.unusedVariables false
set_option linter.unusedSimpArgs false
namespace Go.Gv
open Go.Proofs

def rnd_r0 : List AI := [⟨(some 4), none, (.op (.mv (.c (.int .i64 0))))⟩]
def rnd_r1 : List AI := [⟨(some 5), none, (.op (.mv (.t 0)))⟩, ⟨(some 6), none, (.op (.mv (.t 1)))⟩, ⟨(some 7), none, (.op (.ibin .rem (.t 5) (.t 6)))⟩, ⟨(some 8), none, (.op (.mv (.t 1)))⟩, ⟨(some 9), none, (.op (.ibin .add (.t 7) (.t 8)))⟩, ⟨(some 10), none, (.op (.mv (.t 1)))⟩, ⟨(some 11), none, (.op (.ibin .rem (.t 9) (.t 10)))⟩, ⟨(some 4), none, (.op (.mv (.t 11)))⟩]
def rnd_c : AC := (.seq (.reg rnd_r0) (.seq (.reg rnd_r1) .ret))
def rnd_res : List ARes := [(.tmp 4)]
set_option maxRecDepth 100000 in
theorem rnd_get : getF Try.prog 30 30000 [] = some ("gavotte/gavottealike.Round", 12, rnd_c, rnd_res) := by kernel_rfl
def oneM_r0 : List AI := [⟨(some 0), none, (.op (.new 27000 4 (.agg [.nils, .nils, .nils, (.int .i64 0)])))⟩]
def oneM_r1 : List AI := [⟨(some 1), none, (.op (.build [(.int .i64 0), (.int .i64 0)] [(0, (1, (.c (.int .i64 7))))]))⟩, ⟨(some 2), none, (.op (.build [(.int .i64 0), (.int .i64 0)] [(0, (1, (.c (.int .i64 6))))]))⟩, ⟨(some 3), none, (.op (.bslm 1000027003 2 35 2 (.agg [(.int .i64 0), (.int .i64 0)]) [(0, (.t 1)), (1, (.t 2))]))⟩, ⟨(some 4), none, (.op (.build [(.int .i64 0), .nils] [(0, (1, (.c (.int .i64 1)))), (1, (1, (.t 3)))]))⟩, ⟨(some 5), none, (.op (.bslm 1000027005 2 33 1 (.agg [(.int .i64 0), .nils]) [(0, (.t 4))]))⟩, ⟨(some 6), none, (.op (.bsl 27006 1 3 1 (.int .i64 0) [(0, (.c (.int .i64 3)))]))⟩, ⟨(some 7), none, (.op (.build [.nils, (.int .i64 0), (.int .i64 0), (.bool false)] [(0, (1, (.t 6))), (1, (1, (.c (.int .i64 2)))), (2, (1, (.c (.int .i64 (-1)))))]))⟩, ⟨(some 8), none, (.op (.bslm 1000027008 4 38 1 (.agg [.nils, (.int .i64 0), (.int .i64 0), (.bool false)]) [(0, (.t 7))]))⟩, ⟨(some 9), none, (.op (.bsl 27009 1 3 1 (.int .i64 0) [(0, (.c (.int .i64 5)))]))⟩, ⟨(some 10), none, (.op (.build [(.int .i64 0), (.int .i64 0), .nils] [(2, (1, (.t 9)))]))⟩, ⟨(some 11), none, (.op (.bslm 1000027011 3 40 1 (.agg [(.int .i64 0), (.int .i64 0), .nils]) [(0, (.t 10))]))⟩, ⟨(some 12), none, (.op (.build [.nils, .nils, .nils, (.int .i64 0)] [(0, (1, (.t 5))), (1, (1, (.t 8))), (2, (1, (.t 11))), (3, (1, (.c (.int .i64 10))))]))⟩, ⟨none, none, (.op (.store 4 (.t 0) (.t 12)))⟩]
def oneM_c : AC := (.seq (.reg oneM_r0) (.seq (.reg oneM_r1) .ret))
def oneM_res : List ARes := [(.cell (some 4) 0)]
set_option maxRecDepth 100000 in
theorem oneM_get : getF Try.prog 29 27000 [(3, 1000000003), (5, 1000000005), (8, 1000000008), (11, 1000000011)] = some ("gavotte/gavottelaw3.one", 13, oneM_c, oneM_res) := by kernel_rfl
def podd_r0 : List AI := [⟨(some 2), none, (.op (.mv (.c (.bool false))))⟩]
def podd_r1 : List AI := [⟨(some 8), none, (.op (.mv (.t 0)))⟩, ⟨(some 9), none, (.call (.c (.fn 30 [])) [(.t 8), (.c (.int .i64 16))])⟩, ⟨(some 3), none, (.op (.mv (.t 9)))⟩]
def podd_r2 : List AI := [⟨(some 10), none, (.call (.c (.fn 29 [])) [])⟩, ⟨(some 4), none, (.op (.new 5004 4 (.agg [.nils, .nils, .nils, (.int .i64 0)])))⟩, ⟨none, none, (.op (.store 4 (.t 4) (.t 10)))⟩]
def podd_r3 : List AI := [⟨(some 11), none, (.op (.fld 0 (.t 4)))⟩, ⟨(some 12), none, (.op (.load none (.t 11)))⟩, ⟨(some 13), none, (.op (.idx 2 (.t 12) (.c (.int .i64 0))))⟩, ⟨(some 14), none, (.op (.fld 1 (.t 13)))⟩, ⟨(some 15), none, (.op (.load none (.t 14)))⟩, ⟨(some 16), none, (.op (.idx 2 (.t 15) (.c (.int .i64 0))))⟩, ⟨(some 5), none, (.op (.mv (.t 16)))⟩]
def podd_r4 : List AI := [⟨(some 17), none, (.op (.fld 1 (.t 4)))⟩, ⟨(some 18), none, (.op (.load none (.t 17)))⟩, ⟨(some 19), none, (.op (.idx 4 (.t 18) (.c (.int .i64 0))))⟩, ⟨(some 6), none, (.op (.mv (.t 19)))⟩]
def podd_r5 : List AI := [⟨(some 7), none, (.op (.mv (.c (.int .i64 1))))⟩]
def podd_r6 : List AI := [⟨(some 20), none, (.op (.mv (.t 3)))⟩]
def podd_r7 : List AI := [⟨(some 22), none, (.op (.ibin .eql (.t 20) (.c (.int .i64 0))))⟩, ⟨(some 21), none, (.op (.mv (.t 22)))⟩]
def podd_r8 : List AI := [⟨(some 23), none, (.op (.fld 3 (.t 4)))⟩, ⟨none, none, (.op (.store 1 (.t 23) (.c (.int .i64 257))))⟩]
def podd_r9 : List AI := [⟨(some 25), none, (.op (.ibin .eql (.t 20) (.c (.int .i64 1))))⟩, ⟨(some 24), none, (.op (.mv (.t 25)))⟩]
def podd_r10 : List AI := [⟨(some 26), none, (.op (.fld 1 (.t 4)))⟩, ⟨none, none, (.op (.store 1 (.t 26) (.c .nils)))⟩]
def podd_r11 : List AI := [⟨(some 28), none, (.op (.ibin .eql (.t 20) (.c (.int .i64 2))))⟩, ⟨(some 27), none, (.op (.mv (.t 28)))⟩]
def podd_r12 : List AI := [⟨(some 29), none, (.op (.fld 0 (.t 4)))⟩, ⟨(some 30), none, (.op (.load none (.t 29)))⟩, ⟨(some 31), none, (.op (.idx 2 (.t 30) (.c (.int .i64 0))))⟩, ⟨(some 32), none, (.op (.fld 0 (.t 31)))⟩, ⟨none, none, (.op (.store 1 (.t 32) (.c (.int .i64 5))))⟩]
def podd_r13 : List AI := [⟨(some 34), none, (.op (.ibin .eql (.t 20) (.c (.int .i64 3))))⟩, ⟨(some 33), none, (.op (.mv (.t 34)))⟩]
def podd_r14 : List AI := [⟨(some 35), none, (.op (.mv (.t 5)))⟩, ⟨(some 36), none, (.op (.build [(.int .i64 0), (.int .i64 0)] [(0, (1, (.c (.int .i64 26))))]))⟩, ⟨(some 37), none, (.op (.nilck (.t 35)))⟩, ⟨none, none, (.op (.store 2 (.t 37) (.t 36)))⟩]
def podd_r15 : List AI := [⟨(some 39), none, (.op (.ibin .eql (.t 20) (.c (.int .i64 4))))⟩, ⟨(some 38), none, (.op (.mv (.t 39)))⟩]
def podd_r16 : List AI := [⟨(some 40), none, (.op (.mv (.t 5)))⟩, ⟨(some 41), none, (.op (.build [(.int .i64 0), (.int .i64 0)] [(0, (1, (.c (.int .i64 9)))), (1, (1, (.c (.int .i64 1))))]))⟩, ⟨(some 42), none, (.op (.nilck (.t 40)))⟩, ⟨none, none, (.op (.store 2 (.t 42) (.t 41)))⟩]
def podd_r17 : List AI := [⟨(some 44), none, (.op (.ibin .eql (.t 20) (.c (.int .i64 5))))⟩, ⟨(some 43), none, (.op (.mv (.t 44)))⟩]
def podd_r18 : List AI := [⟨(some 45), none, (.op (.mv (.t 5)))⟩, ⟨(some 46), none, (.op (.build [(.int .i64 0), (.int .i64 0)] [(0, (1, (.c (.int .i64 20)))), (1, (1, (.c (.int .i64 3))))]))⟩, ⟨(some 47), none, (.op (.nilck (.t 45)))⟩, ⟨none, none, (.op (.store 2 (.t 47) (.t 46)))⟩]
def podd_r19 : List AI := [⟨(some 7), none, (.op (.mv (.c (.int .i64 4))))⟩]
def podd_r20 : List AI := [⟨(some 49), none, (.op (.ibin .eql (.t 20) (.c (.int .i64 6))))⟩, ⟨(some 48), none, (.op (.mv (.t 49)))⟩]
def podd_r21 : List AI := [⟨(some 50), none, (.op (.mv (.t 5)))⟩, ⟨(some 51), none, (.op (.build [(.int .i64 0), (.int .i64 0)] [(0, (1, (.c (.int .i64 5)))), (1, (1, (.c (.int .i64 8))))]))⟩, ⟨(some 52), none, (.op (.nilck (.t 50)))⟩, ⟨none, none, (.op (.store 2 (.t 52) (.t 51)))⟩]
def podd_r22 : List AI := [⟨(some 7), none, (.op (.mv (.c (.int .i64 6))))⟩]
def podd_r23 : List AI := [⟨(some 54), none, (.op (.ibin .eql (.t 20) (.c (.int .i64 7))))⟩, ⟨(some 53), none, (.op (.mv (.t 54)))⟩]
def podd_r24 : List AI := [⟨(some 55), none, (.op (.mv (.t 5)))⟩, ⟨(some 56), none, (.op (.build [(.int .i64 0), (.int .i64 0)] [(0, (1, (.c (.int .i64 7)))), (1, (1, (.c (.int .i64 1))))]))⟩, ⟨(some 57), none, (.op (.nilck (.t 55)))⟩, ⟨none, none, (.op (.store 2 (.t 57) (.t 56)))⟩]
def podd_r25 : List AI := [⟨(some 7), none, (.op (.mv (.c (.int .i64 6))))⟩]
def podd_r26 : List AI := [⟨(some 59), none, (.op (.ibin .eql (.t 20) (.c (.int .i64 8))))⟩, ⟨(some 58), none, (.op (.mv (.t 59)))⟩]
def podd_r27 : List AI := [⟨(some 60), none, (.op (.mv (.t 5)))⟩, ⟨(some 61), none, (.op (.build [(.int .i64 0), (.int .i64 0)] [(0, (1, (.c (.int .i64 22)))), (1, (1, (.c (.int .i64 1))))]))⟩, ⟨(some 62), none, (.op (.nilck (.t 60)))⟩, ⟨none, none, (.op (.store 2 (.t 62) (.t 61)))⟩]
def podd_r28 : List AI := [⟨(some 7), none, (.op (.mv (.c (.int .i64 7))))⟩]
def podd_r29 : List AI := [⟨(some 64), none, (.op (.ibin .eql (.t 20) (.c (.int .i64 9))))⟩, ⟨(some 63), none, (.op (.mv (.t 64)))⟩]
def podd_r30 : List AI := [⟨(some 65), none, (.op (.mv (.t 6)))⟩, ⟨(some 66), none, (.op (.nilck (.t 65)))⟩, ⟨(some 67), none, (.op (.fld 1 (.t 66)))⟩, ⟨none, none, (.op (.store 1 (.t 67) (.c (.int .i64 17))))⟩]
def podd_r31 : List AI := [⟨(some 69), none, (.op (.ibin .eql (.t 20) (.c (.int .i64 10))))⟩, ⟨(some 68), none, (.op (.mv (.t 69)))⟩]
def podd_r32 : List AI := [⟨(some 70), none, (.op (.mv (.t 6)))⟩, ⟨(some 71), none, (.op (.nilck (.t 70)))⟩, ⟨(some 72), none, (.op (.fld 2 (.t 71)))⟩, ⟨none, none, (.op (.store 1 (.t 72) (.c (.int .i64 0))))⟩]
def podd_r33 : List AI := [⟨(some 7), none, (.op (.mv (.c (.int .i64 7))))⟩]
def podd_r34 : List AI := [⟨(some 74), none, (.op (.ibin .eql (.t 20) (.c (.int .i64 11))))⟩, ⟨(some 73), none, (.op (.mv (.t 74)))⟩]
def podd_r35 : List AI := [⟨(some 75), none, (.op (.mv (.t 6)))⟩, ⟨(some 76), none, (.op (.nilck (.t 75)))⟩, ⟨(some 77), none, (.op (.fld 2 (.t 76)))⟩, ⟨none, none, (.op (.store 1 (.t 77) (.c (.int .i64 (-2)))))⟩]
def podd_r36 : List AI := [⟨(some 7), none, (.op (.mv (.c (.int .i64 7))))⟩]
def podd_r37 : List AI := [⟨(some 79), none, (.op (.ibin .eql (.t 20) (.c (.int .i64 12))))⟩, ⟨(some 78), none, (.op (.mv (.t 79)))⟩]
def podd_r38 : List AI := [⟨(some 80), none, (.op (.mv (.t 6)))⟩, ⟨(some 81), none, (.op (.nilck (.t 80)))⟩, ⟨(some 82), none, (.op (.fld 3 (.t 81)))⟩, ⟨none, none, (.op (.store 1 (.t 82) (.c (.bool true))))⟩]
def podd_r39 : List AI := [⟨(some 84), none, (.op (.ibin .eql (.t 20) (.c (.int .i64 13))))⟩, ⟨(some 83), none, (.op (.mv (.t 84)))⟩]
def podd_r40 : List AI := [⟨(some 85), none, (.op (.fld 2 (.t 4)))⟩, ⟨(some 86), none, (.op (.load none (.t 85)))⟩, ⟨(some 87), none, (.op (.idx 3 (.t 86) (.c (.int .i64 0))))⟩, ⟨(some 88), none, (.op (.fld 0 (.t 87)))⟩, ⟨none, none, (.op (.store 1 (.t 88) (.c (.int .i64 1))))⟩]
def podd_r41 : List AI := [⟨(some 7), none, (.op (.mv (.c (.int .i64 7))))⟩]
def podd_r42 : List AI := [⟨(some 90), none, (.op (.ibin .eql (.t 20) (.c (.int .i64 14))))⟩, ⟨(some 89), none, (.op (.mv (.t 90)))⟩]
def podd_r43 : List AI := [⟨(some 91), none, (.op (.fld 2 (.t 4)))⟩, ⟨(some 92), none, (.op (.load none (.t 91)))⟩, ⟨(some 93), none, (.op (.idx 3 (.t 92) (.c (.int .i64 0))))⟩, ⟨(some 94), none, (.op (.fld 1 (.t 93)))⟩, ⟨none, none, (.op (.store 1 (.t 94) (.c (.int .i64 (-1)))))⟩]
def podd_r44 : List AI := [⟨(some 7), none, (.op (.mv (.c (.int .i64 7))))⟩]
def podd_r45 : List AI := [⟨(some 96), none, (.op (.ibin .eql (.t 20) (.c (.int .i64 15))))⟩, ⟨(some 95), none, (.op (.mv (.t 96)))⟩]
def podd_r46 : List AI := [⟨(some 97), none, (.op (.fld 2 (.t 4)))⟩, ⟨(some 98), none, (.op (.load none (.t 97)))⟩, ⟨(some 99), none, (.op (.idx 3 (.t 98) (.c (.int .i64 0))))⟩, ⟨(some 100), none, (.op (.fld 2 (.t 99)))⟩, ⟨none, none, (.op (.store 1 (.t 100) (.c .nils)))⟩]
def podd_k0 : AC := (.cond (.t 95) (.reg podd_r46) .skip)
def podd_k1 : AC := (.cond (.t 89) (.seq (.reg podd_r43) (.reg podd_r44)) (.seq (.reg podd_r45) podd_k0))
def podd_k2 : AC := (.cond (.t 83) (.seq (.reg podd_r40) (.reg podd_r41)) (.seq (.reg podd_r42) podd_k1))
def podd_k3 : AC := (.cond (.t 78) (.reg podd_r38) (.seq (.reg podd_r39) podd_k2))
def podd_k4 : AC := (.cond (.t 73) (.seq (.reg podd_r35) (.reg podd_r36)) (.seq (.reg podd_r37) podd_k3))
def podd_k5 : AC := (.cond (.t 68) (.seq (.reg podd_r32) (.reg podd_r33)) (.seq (.reg podd_r34) podd_k4))
def podd_k6 : AC := (.cond (.t 63) (.reg podd_r30) (.seq (.reg podd_r31) podd_k5))
def podd_k7 : AC := (.cond (.t 58) (.seq (.reg podd_r27) (.reg podd_r28)) (.seq (.reg podd_r29) podd_k6))
def podd_k8 : AC := (.cond (.t 53) (.seq (.reg podd_r24) (.reg podd_r25)) (.seq (.reg podd_r26) podd_k7))
def podd_k9 : AC := (.cond (.t 48) (.seq (.reg podd_r21) (.reg podd_r22)) (.seq (.reg podd_r23) podd_k8))
def podd_k10 : AC := (.cond (.t 43) (.seq (.reg podd_r18) (.reg podd_r19)) (.seq (.reg podd_r20) podd_k9))
def podd_k11 : AC := (.cond (.t 38) (.reg podd_r16) (.seq (.reg podd_r17) podd_k10))
def podd_k12 : AC := (.cond (.t 33) (.reg podd_r14) (.seq (.reg podd_r15) podd_k11))
def podd_k13 : AC := (.cond (.t 27) (.reg podd_r12) (.seq (.reg podd_r13) podd_k12))
def podd_k14 : AC := (.cond (.t 24) (.reg podd_r10) (.seq (.reg podd_r11) podd_k13))
def podd_k15 : AC := (.cond (.t 21) (.reg podd_r8) (.seq (.reg podd_r9) podd_k14))
def podd_r47 : List AI := [⟨(some 101), none, (.op (.load (some 4) (.t 4)))⟩, ⟨(some 102), none, (.call (.c (.fn 31 [])) [(.t 101)])⟩, ⟨(some 103), none, (.op (.mv (.t 7)))⟩, ⟨(some 104), none, (.op (.ibin .eql (.t 102) (.t 103)))⟩, ⟨(some 105), none, (.op (.mv (.t 104)))⟩, ⟨(some 106), (some (105, true)), (.call (.c (.fn 29 [])) [])⟩, ⟨(some 107), (some (105, true)), (.call (.c (.fn 31 [])) [(.t 106)])⟩, ⟨(some 108), (some (105, true)), (.op (.ibin .eql (.t 107) (.c (.int .i64 0))))⟩, ⟨(some 109), none, (.op (.pick (.t 105) (.t 108) (.c (.bool false))))⟩, ⟨(some 110), none, (.op (.mv (.t 109)))⟩, ⟨(some 111), (some (110, true)), (.call (.c (.fn 25 [])) [])⟩, ⟨(some 112), none, (.op (.pick (.t 110) (.t 111) (.c (.bool false))))⟩, ⟨(some 2), none, (.op (.mv (.t 112)))⟩]
def podd_c : AC := (.seq (.reg podd_r0) (.seq (.reg podd_r1) (.seq (.reg podd_r2) (.seq (.reg podd_r3) (.seq (.reg podd_r4) (.seq (.reg podd_r5) (.seq (.seq (.reg podd_r6) (.block 0 (.seq (.reg podd_r7) podd_k15))) (.seq (.reg podd_r47) .ret))))))))
def podd_res : List ARes := [(.tmp 2)]
set_option maxRecDepth 100000 in
theorem podd_get : getF Try.prog 5 5000 [] = some ("gavotte/gavottelaw3.ProgOdd", 113, podd_c, podd_res) := by kernel_rfl
attribute [simp] rnd_r0 rnd_r1 rnd_res oneM_r0 oneM_r1 oneM_res podd_r0 podd_r1 podd_r2 podd_r3 podd_r4 podd_r5 podd_r6 podd_r7 podd_r8 podd_r9 podd_r10 podd_r11 podd_r12 podd_r13 podd_r14 podd_r15 podd_r16 podd_r17 podd_r18 podd_r19 podd_r20 podd_r21 podd_r22 podd_r23 podd_r24 podd_r25 podd_r26 podd_r27 podd_r28 podd_r29 podd_r30 podd_r31 podd_r32 podd_r33 podd_r34 podd_r35 podd_r36 podd_r37 podd_r38 podd_r39 podd_r40 podd_r41 podd_r42 podd_r43 podd_r44 podd_r45 podd_r46 podd_r47 podd_res

theorem V_cut3 {P : Program} {a : AC} {κ : Ex → St → Prop} {S : St} (Q : St → Prop) (h : V P a (fun e S' => e = .normal ∧ Q S') S) (hk : ∀ S', Q S' → κ .normal S') : V P a κ S :=
  V_mono a (by rintro e S' ⟨rfl, q⟩; exact hk S' q) h
theorem rnd_pc (k n : Int) (hn : 0 < n ∧ n ≤ 1000) : PC Try.prog 30 [iv k, iv n] (iv ((k.tmod n + n).tmod n)) := by
  refine pc_of_get rnd_get (by simp) _ (by simp) _ ?_
  unfold rnd_c
  have a1 := Int.tmod_lt_of_pos k hn.1
  have a2 := Int.lt_tmod_of_pos k hn.1
  have h1 : IntKind.i64.wrap (k.tmod n + n) = k.tmod n + n := wrap_in _ (by omega) (by omega)
  have h2 : n ≠ 0 := by omega
  simp [h1, h2]
theorem rnd_cases (k n : Int) (hn : 0 < n) : ∃ j : Nat, (j : Int) < n ∧ (k.tmod n + n).tmod n = (j : Int) := by
  have a1 := Int.tmod_lt_of_pos k hn
  have a2 := Int.lt_tmod_of_pos k hn
  rw [Int.tmod_eq_emod_of_nonneg (by omega)]
  have b1 := Int.emod_nonneg (k.tmod n + n) (show n ≠ 0 by omega)
  have b2 := Int.emod_lt_of_pos (k.tmod n + n) hn
  exact ⟨((k.tmod n + n) % n).toNat, by omega, by omega⟩
/-- A program in mutable blocks. -/
theorem oneM_v {S : St} {k : AV → St → Prop} {u : Dep k}
    (hk : ∀ (S' : St) (s3 s5 s8 s11 a b : Nat), S'.t = S.t → (∀ n, 27000 ≤ n → n < 28000 → True) → (∀ n, n < 27000 → S'.blk n = S.blk n) → (∀ n, n < 27000 → S'.tok n = S.tok n) →
      S'.blk 1000027003 = some ⟨s3, 2, [.agg [iv 7, iv 0], .agg [iv 6, iv 0]]⟩ → S'.blk 1000027005 = some ⟨s5, 2, [.agg [iv 1, .sl 1000027003 s3 2 0 2]]⟩ →
      S'.blk 1000027008 = some ⟨s8, 4, [.agg [.acc 27006 a 1 [iv 3], iv 2, iv (-1), .bool false]]⟩ → S'.blk 1000027011 = some ⟨s11, 3, [.agg [iv 0, iv 0, .acc 27009 b 1 [iv 5]]]⟩ →
      k (.agg [.sl 1000027005 s5 2 0 1, .sl 1000027008 s8 4 0 1, .sl 1000027011 s11 3 0 1, iv 10]) S') : CallG Try.prog (.fn 29 []) [] S k u := by
  refine callV oneM_get (by simp) (by simp) ?_
  unfold oneM_c
  simp
  refine hk _ (S.clk + 1 + 1 + 1) (S.clk + 1 + 1 + 1 + 1 + 1) (S.clk + 1 + 1 + 1 + 1 + 1 + 1 + 1 + 1) (S.clk + 1 + 1 + 1 + 1 + 1 + 1 + 1 + 1 + 1 + 1 + 1) (S.clk + 1 + 1 + 1 + 1 + 1 + 1) (S.clk + 1 + 1 + 1 + 1 + 1 + 1 + 1 + 1 + 1) rfl (fun _ _ _ => trivial) (fun n hn => ?_) (fun n hn => ?_) ?_ ?_ ?_ ?_
  · simp [show n ≠ 27000 by omega, show n ≠ 1000027003 by omega, show n ≠ 1000027005 by omega, show n ≠ 1000027008 by omega, show n ≠ 1000027011 by omega]
  · simp [show n ≠ 27006 by omega, show n ≠ 27009 by omega]
  all_goals simp
def oddP : Nat → Prg
  | 0 => ⟨[⟨1, [⟨7, 0⟩, ⟨6, 0⟩]⟩], [⟨[3], 2, -1, false⟩], [⟨0, 0, [5]⟩], 257⟩
  | 1 => ⟨[⟨1, [⟨7, 0⟩, ⟨6, 0⟩]⟩], [], [⟨0, 0, [5]⟩], 10⟩
  | 2 => ⟨[⟨5, [⟨7, 0⟩, ⟨6, 0⟩]⟩], [⟨[3], 2, -1, false⟩], [⟨0, 0, [5]⟩], 10⟩
  | 3 => ⟨[⟨1, [⟨26, 0⟩, ⟨6, 0⟩]⟩], [⟨[3], 2, -1, false⟩], [⟨0, 0, [5]⟩], 10⟩
  | 4 => ⟨[⟨1, [⟨9, 1⟩, ⟨6, 0⟩]⟩], [⟨[3], 2, -1, false⟩], [⟨0, 0, [5]⟩], 10⟩
  | 5 => ⟨[⟨1, [⟨20, 3⟩, ⟨6, 0⟩]⟩], [⟨[3], 2, -1, false⟩], [⟨0, 0, [5]⟩], 10⟩
  | 6 => ⟨[⟨1, [⟨5, 8⟩, ⟨6, 0⟩]⟩], [⟨[3], 2, -1, false⟩], [⟨0, 0, [5]⟩], 10⟩
  | 7 => ⟨[⟨1, [⟨7, 1⟩, ⟨6, 0⟩]⟩], [⟨[3], 2, -1, false⟩], [⟨0, 0, [5]⟩], 10⟩
  | 8 => ⟨[⟨1, [⟨22, 1⟩, ⟨6, 0⟩]⟩], [⟨[3], 2, -1, false⟩], [⟨0, 0, [5]⟩], 10⟩
  | 9 => ⟨[⟨1, [⟨7, 0⟩, ⟨6, 0⟩]⟩], [⟨[3], 17, -1, false⟩], [⟨0, 0, [5]⟩], 10⟩
  | 10 => ⟨[⟨1, [⟨7, 0⟩, ⟨6, 0⟩]⟩], [⟨[3], 2, 0, false⟩], [⟨0, 0, [5]⟩], 10⟩
  | 11 => ⟨[⟨1, [⟨7, 0⟩, ⟨6, 0⟩]⟩], [⟨[3], 2, -2, false⟩], [⟨0, 0, [5]⟩], 10⟩
  | 12 => ⟨[⟨1, [⟨7, 0⟩, ⟨6, 0⟩]⟩], [⟨[3], 2, -1, true⟩], [⟨0, 0, [5]⟩], 10⟩
  | 13 => ⟨[⟨1, [⟨7, 0⟩, ⟨6, 0⟩]⟩], [⟨[3], 2, -1, false⟩], [⟨1, 0, [5]⟩], 10⟩
  | 14 => ⟨[⟨1, [⟨7, 0⟩, ⟨6, 0⟩]⟩], [⟨[3], 2, -1, false⟩], [⟨0, -1, [5]⟩], 10⟩
  | _ => ⟨[⟨1, [⟨7, 0⟩, ⟨6, 0⟩]⟩], [⟨[3], 2, -1, false⟩], [⟨0, 0, []⟩], 10⟩
def oddW : Nat → Int
  | 0 => 1
  | 1 => 1
  | 2 => 1
  | 3 => 1
  | 4 => 1
  | 5 => 4
  | 6 => 6
  | 7 => 6
  | 8 => 7
  | 9 => 1
  | 10 => 7
  | 11 => 7
  | 12 => 1
  | 13 => 7
  | 14 => 7
  | _ => 1
/-- What the switch leaves. -/
def OddQ (n : Nat) (S : St) : Prop := ∃ st w1 w2 w3 w4, S.t 4 = .ptr 5004 st 4 0 0 ∧ S.blk 5004 = some ⟨st, 4, [.agg [w1, w2, w3, w4]]⟩ ∧ S.t 7 = iv (oddW n) ∧ elemR (dco S.blk 2) (.agg [w1, w2, w3, w4]) (oddP n).av
/-- What is there ahead of the switch. -/
def OddI (n : Nat) (S : St) : Prop := ∃ st s3 s5 s8 s11 a b, S.t 20 = iv n ∧ S.t 21 = .bool (decide ((n : Int) = 0)) ∧ S.t 4 = .ptr 5004 st 4 0 0 ∧ S.blk 5004 = some ⟨st, 4, [.agg [.sl 1000027005 s5 2 0 1, .sl 1000027008 s8 4 0 1, .sl 1000027011 s11 3 0 1, iv 10]]⟩ ∧ S.t 7 = iv 1 ∧
  S.t 5 = .ptr 1000027003 s3 2 0 0 ∧ S.t 6 = .ptr 1000027008 s8 4 0 0 ∧
  S.blk 1000027003 = some ⟨s3, 2, [.agg [iv 7, iv 0], .agg [iv 6, iv 0]]⟩ ∧ S.blk 1000027005 = some ⟨s5, 2, [.agg [iv 1, .sl 1000027003 s3 2 0 2]]⟩ ∧
  S.blk 1000027008 = some ⟨s8, 4, [.agg [.acc 27006 a 1 [iv 3], iv 2, iv (-1), .bool false]]⟩ ∧ S.blk 1000027011 = some ⟨s11, 3, [.agg [iv 0, iv 0, .acc 27009 b 1 [iv 5]]]⟩
theorem podd_sw0 (S : St) (h : OddI 0 S) : V Try.prog podd_k15 (fun e S' => e = .normal ∧ OddQ 0 S') S := by
  obtain ⟨st, s3, s5, s8, s11, a, b, g20, g21, g4, c4, g7, g5, g6, b3, b5, b8, b11⟩ := h
  simp [podd_k0, podd_k1, podd_k2, podd_k3, podd_k4, podd_k5, podd_k6, podd_k7, podd_k8, podd_k9, podd_k10, podd_k11, podd_k12, podd_k13, podd_k14, podd_k15, g21, g20, g4, c4, g7, g5, g6, b3, b5, b8, b11]
  refine ⟨st, .sl 1000027005 s5 2 0 1, .sl 1000027008 s8 4 0 1, .sl 1000027011 s11 3 0 1, iv 257, by simp [g4], by simp [c4], by simp [g7, oddW], ?_⟩
  simp [oddP, dco, elemR, coL, co1, b3, b5, b8, b11]
theorem podd_sw1 (S : St) (h : OddI 1 S) : V Try.prog podd_k15 (fun e S' => e = .normal ∧ OddQ 1 S') S := by
  obtain ⟨st, s3, s5, s8, s11, a, b, g20, g21, g4, c4, g7, g5, g6, b3, b5, b8, b11⟩ := h
  simp [podd_k0, podd_k1, podd_k2, podd_k3, podd_k4, podd_k5, podd_k6, podd_k7, podd_k8, podd_k9, podd_k10, podd_k11, podd_k12, podd_k13, podd_k14, podd_k15, g21, g20, g4, c4, g7, g5, g6, b3, b5, b8, b11]
  refine ⟨st, .sl 1000027005 s5 2 0 1, .nils, .sl 1000027011 s11 3 0 1, iv 10, by simp [g4], by simp [c4], by simp [g7, oddW], ?_⟩
  simp [oddP, dco, elemR, coL, co1, b3, b5, b8, b11]
theorem podd_sw2 (S : St) (h : OddI 2 S) : V Try.prog podd_k15 (fun e S' => e = .normal ∧ OddQ 2 S') S := by
  obtain ⟨st, s3, s5, s8, s11, a, b, g20, g21, g4, c4, g7, g5, g6, b3, b5, b8, b11⟩ := h
  simp [podd_k0, podd_k1, podd_k2, podd_k3, podd_k4, podd_k5, podd_k6, podd_k7, podd_k8, podd_k9, podd_k10, podd_k11, podd_k12, podd_k13, podd_k14, podd_k15, g21, g20, g4, c4, g7, g5, g6, b3, b5, b8, b11]
  refine ⟨st, .sl 1000027005 s5 2 0 1, .sl 1000027008 s8 4 0 1, .sl 1000027011 s11 3 0 1, iv 10, by simp [g4], by simp [c4], by simp [g7, oddW], ?_⟩
  simp [oddP, dco, elemR, coL, co1, b3, b5, b8, b11]
theorem podd_sw3 (S : St) (h : OddI 3 S) : V Try.prog podd_k15 (fun e S' => e = .normal ∧ OddQ 3 S') S := by
  obtain ⟨st, s3, s5, s8, s11, a, b, g20, g21, g4, c4, g7, g5, g6, b3, b5, b8, b11⟩ := h
  simp [podd_k0, podd_k1, podd_k2, podd_k3, podd_k4, podd_k5, podd_k6, podd_k7, podd_k8, podd_k9, podd_k10, podd_k11, podd_k12, podd_k13, podd_k14, podd_k15, g21, g20, g4, c4, g7, g5, g6, b3, b5, b8, b11]
  refine ⟨st, .sl 1000027005 s5 2 0 1, .sl 1000027008 s8 4 0 1, .sl 1000027011 s11 3 0 1, iv 10, by simp [g4], by simp [c4], by simp [g7, oddW], ?_⟩
  simp [oddP, dco, elemR, coL, co1, b3, b5, b8, b11]
theorem podd_sw4 (S : St) (h : OddI 4 S) : V Try.prog podd_k15 (fun e S' => e = .normal ∧ OddQ 4 S') S := by
  obtain ⟨st, s3, s5, s8, s11, a, b, g20, g21, g4, c4, g7, g5, g6, b3, b5, b8, b11⟩ := h
  simp [podd_k0, podd_k1, podd_k2, podd_k3, podd_k4, podd_k5, podd_k6, podd_k7, podd_k8, podd_k9, podd_k10, podd_k11, podd_k12, podd_k13, podd_k14, podd_k15, g21, g20, g4, c4, g7, g5, g6, b3, b5, b8, b11]
  refine ⟨st, .sl 1000027005 s5 2 0 1, .sl 1000027008 s8 4 0 1, .sl 1000027011 s11 3 0 1, iv 10, by simp [g4], by simp [c4], by simp [g7, oddW], ?_⟩
  simp [oddP, dco, elemR, coL, co1, b3, b5, b8, b11]
theorem podd_sw5 (S : St) (h : OddI 5 S) : V Try.prog podd_k15 (fun e S' => e = .normal ∧ OddQ 5 S') S := by
  obtain ⟨st, s3, s5, s8, s11, a, b, g20, g21, g4, c4, g7, g5, g6, b3, b5, b8, b11⟩ := h
  simp [podd_k0, podd_k1, podd_k2, podd_k3, podd_k4, podd_k5, podd_k6, podd_k7, podd_k8, podd_k9, podd_k10, podd_k11, podd_k12, podd_k13, podd_k14, podd_k15, g21, g20, g4, c4, g7, g5, g6, b3, b5, b8, b11]
  refine ⟨st, .sl 1000027005 s5 2 0 1, .sl 1000027008 s8 4 0 1, .sl 1000027011 s11 3 0 1, iv 10, by simp [g4], by simp [c4], by simp [g7, oddW], ?_⟩
  simp [oddP, dco, elemR, coL, co1, b3, b5, b8, b11]
theorem podd_sw6 (S : St) (h : OddI 6 S) : V Try.prog podd_k15 (fun e S' => e = .normal ∧ OddQ 6 S') S := by
  obtain ⟨st, s3, s5, s8, s11, a, b, g20, g21, g4, c4, g7, g5, g6, b3, b5, b8, b11⟩ := h
  simp [podd_k0, podd_k1, podd_k2, podd_k3, podd_k4, podd_k5, podd_k6, podd_k7, podd_k8, podd_k9, podd_k10, podd_k11, podd_k12, podd_k13, podd_k14, podd_k15, g21, g20, g4, c4, g7, g5, g6, b3, b5, b8, b11]
  refine ⟨st, .sl 1000027005 s5 2 0 1, .sl 1000027008 s8 4 0 1, .sl 1000027011 s11 3 0 1, iv 10, by simp [g4], by simp [c4], by simp [g7, oddW], ?_⟩
  simp [oddP, dco, elemR, coL, co1, b3, b5, b8, b11]
theorem podd_sw7 (S : St) (h : OddI 7 S) : V Try.prog podd_k15 (fun e S' => e = .normal ∧ OddQ 7 S') S := by
  obtain ⟨st, s3, s5, s8, s11, a, b, g20, g21, g4, c4, g7, g5, g6, b3, b5, b8, b11⟩ := h
  simp [podd_k0, podd_k1, podd_k2, podd_k3, podd_k4, podd_k5, podd_k6, podd_k7, podd_k8, podd_k9, podd_k10, podd_k11, podd_k12, podd_k13, podd_k14, podd_k15, g21, g20, g4, c4, g7, g5, g6, b3, b5, b8, b11]
  refine ⟨st, .sl 1000027005 s5 2 0 1, .sl 1000027008 s8 4 0 1, .sl 1000027011 s11 3 0 1, iv 10, by simp [g4], by simp [c4], by simp [g7, oddW], ?_⟩
  simp [oddP, dco, elemR, coL, co1, b3, b5, b8, b11]
theorem podd_sw8 (S : St) (h : OddI 8 S) : V Try.prog podd_k15 (fun e S' => e = .normal ∧ OddQ 8 S') S := by
  obtain ⟨st, s3, s5, s8, s11, a, b, g20, g21, g4, c4, g7, g5, g6, b3, b5, b8, b11⟩ := h
  simp [podd_k0, podd_k1, podd_k2, podd_k3, podd_k4, podd_k5, podd_k6, podd_k7, podd_k8, podd_k9, podd_k10, podd_k11, podd_k12, podd_k13, podd_k14, podd_k15, g21, g20, g4, c4, g7, g5, g6, b3, b5, b8, b11]
  refine ⟨st, .sl 1000027005 s5 2 0 1, .sl 1000027008 s8 4 0 1, .sl 1000027011 s11 3 0 1, iv 10, by simp [g4], by simp [c4], by simp [g7, oddW], ?_⟩
  simp [oddP, dco, elemR, coL, co1, b3, b5, b8, b11]
theorem podd_sw9 (S : St) (h : OddI 9 S) : V Try.prog podd_k15 (fun e S' => e = .normal ∧ OddQ 9 S') S := by
  obtain ⟨st, s3, s5, s8, s11, a, b, g20, g21, g4, c4, g7, g5, g6, b3, b5, b8, b11⟩ := h
  simp [podd_k0, podd_k1, podd_k2, podd_k3, podd_k4, podd_k5, podd_k6, podd_k7, podd_k8, podd_k9, podd_k10, podd_k11, podd_k12, podd_k13, podd_k14, podd_k15, g21, g20, g4, c4, g7, g5, g6, b3, b5, b8, b11]
  refine ⟨st, .sl 1000027005 s5 2 0 1, .sl 1000027008 s8 4 0 1, .sl 1000027011 s11 3 0 1, iv 10, by simp [g4], by simp [c4], by simp [g7, oddW], ?_⟩
  simp [oddP, dco, elemR, coL, co1, b3, b5, b8, b11]
theorem podd_sw10 (S : St) (h : OddI 10 S) : V Try.prog podd_k15 (fun e S' => e = .normal ∧ OddQ 10 S') S := by
  obtain ⟨st, s3, s5, s8, s11, a, b, g20, g21, g4, c4, g7, g5, g6, b3, b5, b8, b11⟩ := h
  simp [podd_k0, podd_k1, podd_k2, podd_k3, podd_k4, podd_k5, podd_k6, podd_k7, podd_k8, podd_k9, podd_k10, podd_k11, podd_k12, podd_k13, podd_k14, podd_k15, g21, g20, g4, c4, g7, g5, g6, b3, b5, b8, b11]
  refine ⟨st, .sl 1000027005 s5 2 0 1, .sl 1000027008 s8 4 0 1, .sl 1000027011 s11 3 0 1, iv 10, by simp [g4], by simp [c4], by simp [g7, oddW], ?_⟩
  simp [oddP, dco, elemR, coL, co1, b3, b5, b8, b11]
theorem podd_sw11 (S : St) (h : OddI 11 S) : V Try.prog podd_k15 (fun e S' => e = .normal ∧ OddQ 11 S') S := by
  obtain ⟨st, s3, s5, s8, s11, a, b, g20, g21, g4, c4, g7, g5, g6, b3, b5, b8, b11⟩ := h
  simp [podd_k0, podd_k1, podd_k2, podd_k3, podd_k4, podd_k5, podd_k6, podd_k7, podd_k8, podd_k9, podd_k10, podd_k11, podd_k12, podd_k13, podd_k14, podd_k15, g21, g20, g4, c4, g7, g5, g6, b3, b5, b8, b11]
  refine ⟨st, .sl 1000027005 s5 2 0 1, .sl 1000027008 s8 4 0 1, .sl 1000027011 s11 3 0 1, iv 10, by simp [g4], by simp [c4], by simp [g7, oddW], ?_⟩
  simp [oddP, dco, elemR, coL, co1, b3, b5, b8, b11]
theorem podd_sw12 (S : St) (h : OddI 12 S) : V Try.prog podd_k15 (fun e S' => e = .normal ∧ OddQ 12 S') S := by
  obtain ⟨st, s3, s5, s8, s11, a, b, g20, g21, g4, c4, g7, g5, g6, b3, b5, b8, b11⟩ := h
  simp [podd_k0, podd_k1, podd_k2, podd_k3, podd_k4, podd_k5, podd_k6, podd_k7, podd_k8, podd_k9, podd_k10, podd_k11, podd_k12, podd_k13, podd_k14, podd_k15, g21, g20, g4, c4, g7, g5, g6, b3, b5, b8, b11]
  refine ⟨st, .sl 1000027005 s5 2 0 1, .sl 1000027008 s8 4 0 1, .sl 1000027011 s11 3 0 1, iv 10, by simp [g4], by simp [c4], by simp [g7, oddW], ?_⟩
  simp [oddP, dco, elemR, coL, co1, b3, b5, b8, b11]
theorem podd_sw13 (S : St) (h : OddI 13 S) : V Try.prog podd_k15 (fun e S' => e = .normal ∧ OddQ 13 S') S := by
  obtain ⟨st, s3, s5, s8, s11, a, b, g20, g21, g4, c4, g7, g5, g6, b3, b5, b8, b11⟩ := h
  simp [podd_k0, podd_k1, podd_k2, podd_k3, podd_k4, podd_k5, podd_k6, podd_k7, podd_k8, podd_k9, podd_k10, podd_k11, podd_k12, podd_k13, podd_k14, podd_k15, g21, g20, g4, c4, g7, g5, g6, b3, b5, b8, b11]
  refine ⟨st, .sl 1000027005 s5 2 0 1, .sl 1000027008 s8 4 0 1, .sl 1000027011 s11 3 0 1, iv 10, by simp [g4], by simp [c4], by simp [g7, oddW], ?_⟩
  simp [oddP, dco, elemR, coL, co1, b3, b5, b8, b11]
theorem podd_sw14 (S : St) (h : OddI 14 S) : V Try.prog podd_k15 (fun e S' => e = .normal ∧ OddQ 14 S') S := by
  obtain ⟨st, s3, s5, s8, s11, a, b, g20, g21, g4, c4, g7, g5, g6, b3, b5, b8, b11⟩ := h
  simp [podd_k0, podd_k1, podd_k2, podd_k3, podd_k4, podd_k5, podd_k6, podd_k7, podd_k8, podd_k9, podd_k10, podd_k11, podd_k12, podd_k13, podd_k14, podd_k15, g21, g20, g4, c4, g7, g5, g6, b3, b5, b8, b11]
  refine ⟨st, .sl 1000027005 s5 2 0 1, .sl 1000027008 s8 4 0 1, .sl 1000027011 s11 3 0 1, iv 10, by simp [g4], by simp [c4], by simp [g7, oddW], ?_⟩
  simp [oddP, dco, elemR, coL, co1, b3, b5, b8, b11]
theorem podd_sw15 (S : St) (h : OddI 15 S) : V Try.prog podd_k15 (fun e S' => e = .normal ∧ OddQ 15 S') S := by
  obtain ⟨st, s3, s5, s8, s11, a, b, g20, g21, g4, c4, g7, g5, g6, b3, b5, b8, b11⟩ := h
  simp [podd_k0, podd_k1, podd_k2, podd_k3, podd_k4, podd_k5, podd_k6, podd_k7, podd_k8, podd_k9, podd_k10, podd_k11, podd_k12, podd_k13, podd_k14, podd_k15, g21, g20, g4, c4, g7, g5, g6, b3, b5, b8, b11]
  refine ⟨st, .sl 1000027005 s5 2 0 1, .sl 1000027008 s8 4 0 1, .sl 1000027011 s11 3 0 1, iv 10, by simp [g4], by simp [c4], by simp [g7, oddW], ?_⟩
  simp [oddP, dco, elemR, coL, co1, b3, b5, b8, b11]
theorem podd_j (k : Int) (j : Nat) (hj : (k.tmod 16 + 16).tmod 16 = j) (hsw : ∀ S, OddI j S → V Try.prog podd_k15 (fun e S' => e = .normal ∧ OddQ j S') S) (hw : checkV (oddP j) = oddW j) : PC Try.prog 5 [iv k] (.bool true) := by
  refine pc_of_get podd_get (by simp) _ (by simp) _ ?_
  unfold podd_c
  simp
  refine call (rnd_pc k 16 (by omega)) (by simp) ?_
  rw [hj]
  simp
  refine oneM_v ?_
  intro S s3 s5 s8 s11 a b ht _ hb hk b3 b5 b8 b11
  simp [ht, b3, b5, b8, b11]
  refine V_cut3 (OddQ j) (hsw _ ⟨5, s3, s5, s8, s11, a, b, by simp, by simp [Int.natCast_eq_zero], by simp, by simp, by simp, by simp, by simp, by simp [b3], by simp [b5], by simp [b8], by simp [b11]⟩) ?_
  rintro S' ⟨st, w1, w2, w3, w4, g4, c4, g7, hco⟩
  simp [g4, c4]
  refine callW (check_pc (oddP j)) 2 ⟨hco, trivial⟩ rfl ?_
  rw [hw]
  simp [g7]
  refine call one_pc (by simp) ?_
  simp
  refine call (check_pc oneP) (by simp) ?_
  rw [show checkV oneP = 0 by decide]
  simp
  refine call awake_pc (by simp) ?_
  simp
theorem progOdd_pc (k : Int) : PC Try.prog 5 [iv k] (.bool true) := by
  obtain ⟨j, hj1, hj⟩ := rnd_cases k 16 (by omega)
  rcases (show j = 0 ∨ j = 1 ∨ j = 2 ∨ j = 3 ∨ j = 4 ∨ j = 5 ∨ j = 6 ∨ j = 7 ∨ j = 8 ∨ j = 9 ∨ j = 10 ∨ j = 11 ∨ j = 12 ∨ j = 13 ∨ j = 14 ∨ j = 15 by omega) with rfl | rfl | rfl | rfl | rfl | rfl | rfl | rfl | rfl | rfl | rfl | rfl | rfl | rfl | rfl | rfl
  · exact podd_j k 0 hj podd_sw0 (by decide)
  · exact podd_j k 1 hj podd_sw1 (by decide)
  · exact podd_j k 2 hj podd_sw2 (by decide)
  · exact podd_j k 3 hj podd_sw3 (by decide)
  · exact podd_j k 4 hj podd_sw4 (by decide)
  · exact podd_j k 5 hj podd_sw5 (by decide)
  · exact podd_j k 6 hj podd_sw6 (by decide)
  · exact podd_j k 7 hj podd_sw7 (by decide)
  · exact podd_j k 8 hj podd_sw8 (by decide)
  · exact podd_j k 9 hj podd_sw9 (by decide)
  · exact podd_j k 10 hj podd_sw10 (by decide)
  · exact podd_j k 11 hj podd_sw11 (by decide)
  · exact podd_j k 12 hj podd_sw12 (by decide)
  · exact podd_j k 13 hj podd_sw13 (by decide)
  · exact podd_j k 14 hj podd_sw14 (by decide)
  · exact podd_j k 15 hj podd_sw15 (by decide)

end Go.Gv

/- The law ProgLimits answers true. No condition. -/
set_option linter.unusedVariables false
set_option linter.unusedSimpArgs false
namespace Go.Gv
open Go.Proofs

def oneL_r0 : List AI := [⟨(some 0), none, (.op (.new 27000 4 (.agg [.nils, .nils, .nils, (.int .i64 0)])))⟩]
def oneL_r1 : List AI := [⟨(some 1), none, (.op (.build [(.int .i64 0), (.int .i64 0)] [(0, (1, (.c (.int .i64 7))))]))⟩, ⟨(some 2), none, (.op (.build [(.int .i64 0), (.int .i64 0)] [(0, (1, (.c (.int .i64 6))))]))⟩, ⟨(some 3), none, (.op (.bsl 27003 2 35 2 (.agg [(.int .i64 0), (.int .i64 0)]) [(0, (.t 1)), (1, (.t 2))]))⟩, ⟨(some 4), none, (.op (.build [(.int .i64 0), .nils] [(0, (1, (.c (.int .i64 1)))), (1, (1, (.t 3)))]))⟩, ⟨(some 5), none, (.op (.bslm 1000027005 2 33 1 (.agg [(.int .i64 0), .nils]) [(0, (.t 4))]))⟩, ⟨(some 6), none, (.op (.bsl 27006 1 3 1 (.int .i64 0) [(0, (.c (.int .i64 3)))]))⟩, ⟨(some 7), none, (.op (.build [.nils, (.int .i64 0), (.int .i64 0), (.bool false)] [(0, (1, (.t 6))), (1, (1, (.c (.int .i64 2)))), (2, (1, (.c (.int .i64 (-1)))))]))⟩, ⟨(some 8), none, (.op (.bslm 1000027008 4 38 1 (.agg [.nils, (.int .i64 0), (.int .i64 0), (.bool false)]) [(0, (.t 7))]))⟩, ⟨(some 9), none, (.op (.bsl 27009 1 3 1 (.int .i64 0) [(0, (.c (.int .i64 5)))]))⟩, ⟨(some 10), none, (.op (.build [(.int .i64 0), (.int .i64 0), .nils] [(2, (1, (.t 9)))]))⟩, ⟨(some 11), none, (.op (.bsl 27011 3 40 1 (.agg [(.int .i64 0), (.int .i64 0), .nils]) [(0, (.t 10))]))⟩, ⟨(some 12), none, (.op (.build [.nils, .nils, .nils, (.int .i64 0)] [(0, (1, (.t 5))), (1, (1, (.t 8))), (2, (1, (.t 11))), (3, (1, (.c (.int .i64 10))))]))⟩, ⟨none, none, (.op (.store 4 (.t 0) (.t 12)))⟩]
def oneL_c : AC := (.seq (.reg oneL_r0) (.seq (.reg oneL_r1) .ret))
def oneL_res : List ARes := [(.cell (some 4) 0)]
set_option maxRecDepth 100000 in
theorem oneL_get : getF Try.prog 29 27000 [(5, 1000000005), (8, 1000000008)] = some ("gavotte/gavottelaw3.one", 13, oneL_c, oneL_res) := by kernel_rfl
def plim_r0 : List AI := [⟨(some 4), none, (.op (.mv (.c (.bool false))))⟩]
def plim_r1 : List AI := [⟨(some 13), none, (.op (.mv (.t 0)))⟩, ⟨(some 14), none, (.op (.ibin .lss (.t 13) (.c (.int .i64 0))))⟩, ⟨(some 15), none, (.op (.mv (.t 14)))⟩, ⟨(some 16), (some (15, false)), (.op (.mv (.t 0)))⟩, ⟨(some 17), (some (15, false)), (.op (.ibin .gtr (.t 16) (.c (.int .i64 70))))⟩, ⟨(some 18), none, (.op (.pick (.t 15) (.c (.bool true)) (.t 17)))⟩]
def plim_r2 : List AI := [⟨(some 19), none, (.call (.c (.fn 25 [])) [])⟩, ⟨(some 4), none, (.op (.mv (.t 19)))⟩]
def plim_r3 : List AI := [⟨(some 20), none, (.call (.c (.fn 29 [])) [])⟩, ⟨(some 5), none, (.op (.new 4005 4 (.agg [.nils, .nils, .nils, (.int .i64 0)])))⟩, ⟨none, none, (.op (.store 4 (.t 5) (.t 20)))⟩]
def plim_r4 : List AI := [⟨(some 6), none, (.op (.mv (.c (.int .i64 0))))⟩]
def plim_r5 : List AI := [⟨(some 21), none, (.op (.mv (.t 1)))⟩, ⟨(some 22), none, (.call (.c (.fn 30 [])) [(.t 21), (.c (.int .i64 5))])⟩]
def plim_r6 : List AI := [⟨(some 24), none, (.op (.ibin .eql (.t 22) (.c (.int .i64 0))))⟩, ⟨(some 23), none, (.op (.mv (.t 24)))⟩]
def plim_r7 : List AI := [⟨(some 6), none, (.op (.mv (.c (.int .i64 15))))⟩]
def plim_r8 : List AI := [⟨(some 7), none, (.op (.mv (.c (.int .i64 0))))⟩]
def plim_r9 : List AI := [⟨(some 25), none, (.op (.mv (.t 7)))⟩, ⟨(some 26), none, (.op (.mv (.t 0)))⟩, ⟨(some 27), none, (.op (.ibin .lss (.t 25) (.t 26)))⟩]
def plim_r10 : List AI := [⟨(some 30), none, (.op (.fld 0 (.t 5)))⟩, ⟨(some 31), none, (.op (.load none (.t 30)))⟩, ⟨(some 32), none, (.op (.build [(.int .i64 0), .nils] []))⟩, ⟨(some 33), none, (.op (.bsl 4033 2 33 1 (.agg [(.int .i64 0), .nils]) [(0, (.t 32))]))⟩, ⟨(some 34), none, (.op (.appw 1000027005 2 33 32 (.t 31) (.t 33)))⟩, ⟨(some 35), none, (.op (.fld 0 (.t 5)))⟩, ⟨none, none, (.op (.store 1 (.t 35) (.t 34)))⟩]
def plim_r11 : List AI := [⟨(some 28), none, (.op (.mv (.t 7)))⟩, ⟨(some 29), none, (.op (.ibin .add (.t 28) (.c (.int .i64 1))))⟩, ⟨(some 7), none, (.op (.mv (.t 29)))⟩]
def plim_l0 : AC := (.seq (.seq (.reg plim_r9) (.cond (.t 27) .skip (.exit 1))) (.seq (.block 2 (.reg plim_r10)) (.reg plim_r11)))
def plim_r12 : List AI := [⟨(some 37), none, (.op (.ibin .eql (.t 22) (.c (.int .i64 1))))⟩, ⟨(some 36), none, (.op (.mv (.t 37)))⟩]
def plim_r13 : List AI := [⟨(some 6), none, (.op (.mv (.c (.int .i64 7))))⟩]
def plim_r14 : List AI := [⟨(some 8), none, (.op (.mv (.c (.int .i64 0))))⟩]
def plim_r15 : List AI := [⟨(some 38), none, (.op (.mv (.t 8)))⟩, ⟨(some 39), none, (.op (.mv (.t 0)))⟩, ⟨(some 40), none, (.op (.ibin .lss (.t 38) (.t 39)))⟩]
def plim_r16 : List AI := [⟨(some 43), none, (.op (.fld 1 (.t 5)))⟩, ⟨(some 44), none, (.op (.load none (.t 43)))⟩, ⟨(some 45), none, (.op (.build [.nils, (.int .i64 0), (.int .i64 0), (.bool false)] [(2, (1, (.c (.int .i64 (-1)))))]))⟩, ⟨(some 46), none, (.op (.bsl 4046 4 38 1 (.agg [.nils, (.int .i64 0), (.int .i64 0), (.bool false)]) [(0, (.t 45))]))⟩, ⟨(some 47), none, (.op (.appw 1000027008 4 38 48 (.t 44) (.t 46)))⟩, ⟨(some 48), none, (.op (.fld 1 (.t 5)))⟩, ⟨none, none, (.op (.store 1 (.t 48) (.t 47)))⟩]
def plim_r17 : List AI := [⟨(some 41), none, (.op (.mv (.t 8)))⟩, ⟨(some 42), none, (.op (.ibin .add (.t 41) (.c (.int .i64 1))))⟩, ⟨(some 8), none, (.op (.mv (.t 42)))⟩]
def plim_l1 : AC := (.seq (.seq (.reg plim_r15) (.cond (.t 40) .skip (.exit 3))) (.seq (.block 4 (.reg plim_r16)) (.reg plim_r17)))
def plim_r18 : List AI := [⟨(some 50), none, (.op (.ibin .eql (.t 22) (.c (.int .i64 2))))⟩, ⟨(some 49), none, (.op (.mv (.t 50)))⟩]
def plim_r19 : List AI := [⟨(some 6), none, (.op (.mv (.c (.int .i64 15))))⟩]
def plim_r20 : List AI := [⟨(some 9), none, (.op (.mv (.c (.int .i64 0))))⟩]
def plim_r21 : List AI := [⟨(some 51), none, (.op (.mv (.t 9)))⟩, ⟨(some 52), none, (.op (.mv (.t 0)))⟩, ⟨(some 53), none, (.op (.ibin .lss (.t 51) (.t 52)))⟩]
def plim_r22 : List AI := [⟨(some 56), none, (.op (.fld 2 (.t 5)))⟩, ⟨(some 57), none, (.op (.load none (.t 56)))⟩, ⟨(some 58), none, (.op (.mv (.t 9)))⟩, ⟨(some 59), none, (.op (.bsl 4059 1 3 1 (.int .i64 0) [(0, (.t 58))]))⟩, ⟨(some 60), none, (.op (.build [(.int .i64 0), (.int .i64 0), .nils] [(2, (1, (.t 59)))]))⟩, ⟨(some 61), none, (.op (.bsl 4061 3 40 1 (.agg [(.int .i64 0), (.int .i64 0), .nils]) [(0, (.t 60))]))⟩, ⟨(some 62), none, (.op (.app 27011 3 40 40 (.t 57) (.t 61)))⟩, ⟨(some 63), none, (.op (.fld 2 (.t 5)))⟩, ⟨none, none, (.op (.store 1 (.t 63) (.t 62)))⟩]
def plim_r23 : List AI := [⟨(some 54), none, (.op (.mv (.t 9)))⟩, ⟨(some 55), none, (.op (.ibin .add (.t 54) (.c (.int .i64 1))))⟩, ⟨(some 9), none, (.op (.mv (.t 55)))⟩]
def plim_l2 : AC := (.seq (.seq (.reg plim_r21) (.cond (.t 53) .skip (.exit 5))) (.seq (.block 6 (.reg plim_r22)) (.reg plim_r23)))
def plim_r24 : List AI := [⟨(some 65), none, (.op (.ibin .eql (.t 22) (.c (.int .i64 3))))⟩, ⟨(some 64), none, (.op (.mv (.t 65)))⟩]
def plim_r25 : List AI := [⟨(some 6), none, (.op (.mv (.c (.int .i64 62))))⟩]
def plim_r26 : List AI := [⟨(some 10), none, (.op (.mv (.c (.int .i64 0))))⟩]
def plim_r27 : List AI := [⟨(some 66), none, (.op (.mv (.t 10)))⟩, ⟨(some 67), none, (.op (.mv (.t 0)))⟩, ⟨(some 68), none, (.op (.ibin .lss (.t 66) (.t 67)))⟩]
def plim_r28 : List AI := [⟨(some 71), none, (.op (.fld 0 (.t 5)))⟩, ⟨(some 72), none, (.op (.load none (.t 71)))⟩, ⟨(some 73), none, (.op (.fld 0 (.t 5)))⟩, ⟨(some 74), none, (.op (.load none (.t 73)))⟩, ⟨(some 75), none, (.op (.idx 2 (.t 74) (.c (.int .i64 0))))⟩, ⟨(some 76), none, (.op (.fld 1 (.t 75)))⟩, ⟨(some 77), none, (.op (.load none (.t 76)))⟩, ⟨(some 78), none, (.op (.build [(.int .i64 0), (.int .i64 0)] [(0, (1, (.c (.int .i64 25))))]))⟩, ⟨(some 79), none, (.op (.bsl 4079 2 35 1 (.agg [(.int .i64 0), (.int .i64 0)]) [(0, (.t 78))]))⟩, ⟨(some 80), none, (.op (.app 27003 2 35 16 (.t 77) (.t 79)))⟩, ⟨(some 81), none, (.op (.idx 2 (.t 72) (.c (.int .i64 0))))⟩, ⟨(some 82), none, (.op (.fld 1 (.t 81)))⟩, ⟨none, none, (.op (.store 1 (.t 82) (.t 80)))⟩]
def plim_p28 : List (List Nat) := [[], [0], [], [2], [3, 2], [4, 3, 2], [5, 4, 3, 2], [], [7], [6, 8, 5, 4, 3, 2, 7], [1, 0, 2, 3, 4, 5, 6, 7, 8, 9], [10, 0, 1, 2, 3, 4, 5, 6, 7, 8, 9], [11, 9, 0, 1, 2, 3, 4, 5, 6, 7, 8, 10]]
def plim_r29 : List AI := [⟨(some 69), none, (.op (.mv (.t 10)))⟩, ⟨(some 70), none, (.op (.ibin .add (.t 69) (.c (.int .i64 1))))⟩, ⟨(some 10), none, (.op (.mv (.t 70)))⟩]
def plim_l3 : AC := (.seq (.seq (.reg plim_r27) (.cond (.t 68) .skip (.exit 7))) (.seq (.block 8 (.regd plim_r28 plim_p28)) (.reg plim_r29)))
def plim_r30 : List AI := [⟨(some 84), none, (.op (.ibin .eql (.t 22) (.c (.int .i64 4))))⟩, ⟨(some 83), none, (.op (.mv (.t 84)))⟩]
def plim_r31 : List AI := [⟨(some 6), none, (.op (.mv (.c (.int .i64 7))))⟩]
def plim_r32 : List AI := [⟨(some 11), none, (.op (.mv (.c (.int .i64 0))))⟩]
def plim_r33 : List AI := [⟨(some 85), none, (.op (.mv (.t 11)))⟩, ⟨(some 86), none, (.op (.mv (.t 0)))⟩, ⟨(some 87), none, (.op (.ibin .lss (.t 85) (.t 86)))⟩]
def plim_r34 : List AI := [⟨(some 90), none, (.op (.fld 1 (.t 5)))⟩, ⟨(some 91), none, (.op (.load none (.t 90)))⟩, ⟨(some 92), none, (.op (.fld 1 (.t 5)))⟩, ⟨(some 93), none, (.op (.load none (.t 92)))⟩, ⟨(some 94), none, (.op (.idx 4 (.t 93) (.c (.int .i64 0))))⟩, ⟨(some 95), none, (.op (.fld 0 (.t 94)))⟩, ⟨(some 96), none, (.op (.load none (.t 95)))⟩, ⟨(some 97), none, (.op (.mv (.t 11)))⟩, ⟨(some 98), none, (.op (.bsl 4098 1 3 1 (.int .i64 0) [(0, (.t 97))]))⟩, ⟨(some 99), none, (.op (.app 27006 1 3 8 (.t 96) (.t 98)))⟩, ⟨(some 100), none, (.op (.idx 4 (.t 91) (.c (.int .i64 0))))⟩, ⟨(some 101), none, (.op (.fld 0 (.t 100)))⟩, ⟨none, none, (.op (.store 1 (.t 101) (.t 99)))⟩]
def plim_p34 : List (List Nat) := [[], [0], [], [2], [3, 2], [4, 3, 2], [5, 4, 3, 2], [], [7], [6, 8, 5, 4, 3, 2, 7], [1, 0, 2, 3, 4, 5, 6, 7, 8, 9], [10, 0, 1, 2, 3, 4, 5, 6, 7, 8, 9], [11, 9, 0, 1, 2, 3, 4, 5, 6, 7, 8, 10]]
def plim_r35 : List AI := [⟨(some 88), none, (.op (.mv (.t 11)))⟩, ⟨(some 89), none, (.op (.ibin .add (.t 88) (.c (.int .i64 1))))⟩, ⟨(some 11), none, (.op (.mv (.t 89)))⟩]
def plim_l4 : AC := (.seq (.seq (.reg plim_r33) (.cond (.t 87) .skip (.exit 9))) (.seq (.block 10 (.regd plim_r34 plim_p34)) (.reg plim_r35)))
def plim_k0 : AC := (.cond (.t 83) (.seq (.reg plim_r31) (.seq (.reg plim_r32) (.block 9 (.loop plim_l4)))) .skip)
def plim_k1 : AC := (.cond (.t 64) (.seq (.reg plim_r25) (.seq (.reg plim_r26) (.block 7 (.loop plim_l3)))) (.seq (.reg plim_r30) plim_k0))
def plim_k2 : AC := (.cond (.t 49) (.seq (.reg plim_r19) (.seq (.reg plim_r20) (.block 5 (.loop plim_l2)))) (.seq (.reg plim_r24) plim_k1))
def plim_k3 : AC := (.cond (.t 36) (.seq (.reg plim_r13) (.seq (.reg plim_r14) (.block 3 (.loop plim_l1)))) (.seq (.reg plim_r18) plim_k2))
def plim_k4 : AC := (.cond (.t 23) (.seq (.reg plim_r7) (.seq (.reg plim_r8) (.block 1 (.loop plim_l0)))) (.seq (.reg plim_r12) plim_k3))
def plim_r36 : List AI := [⟨(some 12), none, (.op (.mv (.c (.int .i64 0))))⟩]
def plim_r37 : List AI := [⟨(some 102), none, (.op (.mv (.t 0)))⟩, ⟨(some 103), none, (.op (.mv (.t 6)))⟩, ⟨(some 104), none, (.op (.ibin .gtr (.t 102) (.t 103)))⟩]
def plim_r38 : List AI := [⟨(some 12), none, (.op (.mv (.c (.int .i64 3))))⟩]
def plim_k5 : AC := (.cond (.t 104) (.reg plim_r38) .skip)
def plim_r39 : List AI := [⟨(some 105), none, (.op (.load (some 4) (.t 5)))⟩, ⟨(some 106), none, (.call (.c (.fn 31 [])) [(.t 105)])⟩, ⟨(some 107), none, (.op (.mv (.t 12)))⟩, ⟨(some 108), none, (.op (.ibin .eql (.t 106) (.t 107)))⟩, ⟨(some 109), none, (.op (.mv (.t 108)))⟩, ⟨(some 110), (some (109, true)), (.call (.c (.fn 25 [])) [])⟩, ⟨(some 111), none, (.op (.pick (.t 109) (.t 110) (.c (.bool false))))⟩, ⟨(some 4), none, (.op (.mv (.t 111)))⟩]
def plim_c : AC := (.seq (.reg plim_r0) (.seq (.seq (.reg plim_r1) (.cond (.t 18) (.seq (.reg plim_r2) .ret) .skip)) (.seq (.reg plim_r3) (.seq (.reg plim_r4) (.seq (.seq (.reg plim_r5) (.block 0 (.seq (.reg plim_r6) plim_k4))) (.seq (.reg plim_r36) (.seq (.seq (.reg plim_r37) plim_k5) (.seq (.reg plim_r39) .ret))))))))
def plim_res : List ARes := [(.tmp 4)]
set_option maxRecDepth 100000 in
theorem plim_get : getF Try.prog 4 4000 [(34, 1000023005), (47, 1000023008), (62, 23011), (80, 23003), (99, 23006)] = some ("gavotte/gavottelaw3.ProgLimits", 112, plim_c, plim_res) := by kernel_rfl
attribute [simp] oneL_r0 oneL_r1 oneL_res plim_r0 plim_r1 plim_r2 plim_r3 plim_r4 plim_r5 plim_r6 plim_r7 plim_r8 plim_r9 plim_r10 plim_r11 plim_r12 plim_r13 plim_r14 plim_r15 plim_r16 plim_r17 plim_r18 plim_r19 plim_r20 plim_r21 plim_r22 plim_r23 plim_r24 plim_r25 plim_r26 plim_r27 plim_r28 plim_p28 plim_r29 plim_r30 plim_r31 plim_r32 plim_r33 plim_r34 plim_p34 plim_r35 plim_r36 plim_r37 plim_r38 plim_r39 plim_res

theorem oneL_v {S : St} {k : AV → St → Prop} {u : Dep k}
    (hk : ∀ (S' : St) (s3 s5 s6 s8 s9 s11 : Nat), S'.t = S.t →
      S'.tok 27003 = some ⟨s3, 2, 35⟩ → S'.blk 1000027005 = some ⟨s5, 2, [.agg [iv 1, .acc 27003 s3 2 [.agg [iv 7, iv 0], .agg [iv 6, iv 0]]]]⟩ →
      S'.tok 27006 = some ⟨s6, 1, 3⟩ → S'.blk 1000027008 = some ⟨s8, 4, [.agg [.acc 27006 s6 1 [iv 3], iv 2, iv (-1), .bool false]]⟩ → S'.tok 27011 = some ⟨s11, 3, 40⟩ →
      k (.agg [.sl 1000027005 s5 2 0 1, .sl 1000027008 s8 4 0 1, .acc 27011 s11 3 [.agg [iv 0, iv 0, .lst 1 [iv 5]]], iv 10]) S') : CallG Try.prog (.fn 29 []) [] S k u := by
  refine callV oneL_get (by simp) (by simp) ?_
  unfold oneL_c
  simp
  refine hk _ (S.clk + 1 + 1 + 1) (S.clk + 1 + 1 + 1 + 1 + 1) (S.clk + 1 + 1 + 1 + 1 + 1 + 1) (S.clk + 1 + 1 + 1 + 1 + 1 + 1 + 1 + 1) (S.clk + 1 + 1 + 1 + 1 + 1 + 1 + 1 + 1 + 1) (S.clk + 1 + 1 + 1 + 1 + 1 + 1 + 1 + 1 + 1 + 1 + 1) rfl ?_ ?_ ?_ ?_ ?_
  all_goals simp
def upI (n : Nat) : List Int := (List.range n).map fun i : Nat => (i : Int)
theorem upI_succ (n : Nat) : upI (n + 1) = upI n ++ [(n : Int)] := by simp [upI, List.range_succ]
def limP (n : Nat) : Nat → Prg
  | 0 => ⟨[⟨1, [⟨7, 0⟩, ⟨6, 0⟩]⟩] ++ List.replicate n ⟨0, []⟩, [⟨[3], 2, -1, false⟩], [⟨0, 0, [5]⟩], 10⟩
  | 1 => ⟨[⟨1, [⟨7, 0⟩, ⟨6, 0⟩]⟩], [⟨[3], 2, -1, false⟩] ++ List.replicate n ⟨[], 0, -1, false⟩, [⟨0, 0, [5]⟩], 10⟩
  | 2 => ⟨[⟨1, [⟨7, 0⟩, ⟨6, 0⟩]⟩], [⟨[3], 2, -1, false⟩], [⟨0, 0, [5]⟩] ++ (upI n).map fun i => ⟨0, 0, [i]⟩, 10⟩
  | 3 => ⟨[⟨1, [⟨7, 0⟩, ⟨6, 0⟩] ++ List.replicate n ⟨25, 0⟩⟩], [⟨[3], 2, -1, false⟩], [⟨0, 0, [5]⟩], 10⟩
  | _ => ⟨[⟨1, [⟨7, 0⟩, ⟨6, 0⟩]⟩], [⟨[3] ++ upI n, 2, -1, false⟩], [⟨0, 0, [5]⟩], 10⟩
def limM : Nat → Int
  | 0 => 15
  | 1 => 7
  | 2 => 15
  | 3 => 62
  | _ => 7
set_option maxRecDepth 100000 in
theorem lim_law0 : ∀ n : Fin 71, checkV (limP n.val 0) = if (n.val : Int) > limM 0 then 3 else 0 := by decide +kernel
set_option maxRecDepth 100000 in
theorem lim_law1 : ∀ n : Fin 71, checkV (limP n.val 1) = if (n.val : Int) > limM 1 then 3 else 0 := by decide +kernel
set_option maxRecDepth 100000 in
theorem lim_law2 : ∀ n : Fin 71, checkV (limP n.val 2) = if (n.val : Int) > limM 2 then 3 else 0 := by decide +kernel
set_option maxRecDepth 100000 in
theorem lim_law3 : ∀ n : Fin 71, checkV (limP n.val 3) = if (n.val : Int) > limM 3 then 3 else 0 := by decide +kernel
set_option maxRecDepth 100000 in
theorem lim_law4 : ∀ n : Fin 71, checkV (limP n.val 4) = if (n.val : Int) > limM 4 then 3 else 0 := by decide +kernel
def rp {α : Type} (l : List α) (i : Nat) (x : α) : List α := l ++ List.replicate i x
theorem rp_zero {α : Type} (l : List α) (x : α) : rp l 0 x = l := by simp [rp]
theorem rp_succ {α : Type} (l : List α) (i : Nat) (x : α) : rp l (i + 1) x = rp l i x ++ [x] := by simp [rp, List.replicate_succ', ← List.append_assoc]
theorem rp_len {α : Type} (l : List α) (i : Nat) (x : α) : (rp l i x).length = l.length + i := by simp [rp]
theorem coL_rep {R : AV → AV → Prop} (x y : AV) (h : R x y) : ∀ n : Nat, coL R (List.replicate n x) (List.replicate n y)
  | 0 => trivial
  | n + 1 => ⟨h, coL_rep x y h n⟩
def LimI (n k : Nat) (S : St) : Prop := ∃ st s3 s5 s6 s8 s11, S.t 22 = iv k ∧ S.t 23 = .bool (decide ((k : Int) = 0)) ∧ S.t 0 = iv n ∧ S.t 5 = .ptr 4005 st 4 0 0 ∧
  S.blk 4005 = some ⟨st, 4, [.agg [.sl 1000027005 s5 2 0 1, .sl 1000027008 s8 4 0 1, .acc 27011 s11 3 [.agg [iv 0, iv 0, .lst 1 [iv 5]]], iv 10]]⟩ ∧
  S.tok 27003 = some ⟨s3, 2, 35⟩ ∧ S.blk 1000027005 = some ⟨s5, 2, [.agg [iv 1, .acc 27003 s3 2 [.agg [iv 7, iv 0], .agg [iv 6, iv 0]]]]⟩ ∧
  S.tok 27006 = some ⟨s6, 1, 3⟩ ∧ S.blk 1000027008 = some ⟨s8, 4, [.agg [.acc 27006 s6 1 [iv 3], iv 2, iv (-1), .bool false]]⟩ ∧ S.tok 27011 = some ⟨s11, 3, 40⟩
def LimQ (n k : Nat) (S : St) : Prop := ∃ st w1 w2 w3 w4, S.t 0 = iv n ∧ S.t 6 = iv (limM k) ∧ S.t 5 = .ptr 4005 st 4 0 0 ∧ S.blk 4005 = some ⟨st, 4, [.agg [w1, w2, w3, w4]]⟩ ∧ coL (dco S.blk 2) [w1, w2, w3, w4] (limP n k).av.cells
theorem lim_sw0 (n : Nat) (hn : n ≤ 70) (S : St) (h : LimI n 0 S) : V Try.prog plim_k4 (fun e S' => e = .normal ∧ LimQ n 0 S') S := by
  obtain ⟨st, s3, s5, s6, s8, s11, g22, g23, g0, g5, c5, t3, b5, t6, b8, t11⟩ := h
  simp [plim_k0, plim_k1, plim_k2, plim_k3, plim_k4, g22, g23, g0, g5, c5, t3, b5, t6, b8, t11]
  refine loopN (fun i S => S.t 7 = iv i ∧ S.t 0 = iv n ∧ S.t 6 = iv 15 ∧ S.t 5 = .ptr 4005 st 4 0 0 ∧ ∃ s, S.blk 4005 = some ⟨st, 4, [.agg [.sl 1000027005 s 2 0 (i + 1), .sl 1000027008 s8 4 0 1, .acc 27011 s11 3 [.agg [iv 0, iv 0, .lst 1 [iv 5]]], iv 10]]⟩ ∧ S.blk 1000027005 = some ⟨s, 2, rp [(.agg [iv 1, .acc 27003 s3 2 [.agg [iv 7, iv 0], .agg [iv 6, iv 0]]])] i (.agg [iv 0, .nils])⟩ ∧ S.blk 1000027008 = some ⟨s8, 4, [(.agg [.acc 27006 s6 1 [iv 3], iv 2, iv (-1), .bool false])]⟩) n ?_ ?_
  · simp [g0, g5, c5, t3, b5, t6, b8, t11, rp_zero, rp_zero]
  · clear g22 g23 g0 g5 c5 t3 b5 t6 b8 t11 S
    rintro i S hi ⟨g1, g0, g6, g5, s, c, b, b'⟩
    by_cases hlt : i < n
    · have ws := wrap_succ i _ hlt (by omega)
      have z : (i + 1 + 1) * 32 ≤ 140737488355328 := by omega
      have hl : (rp (α := AV) [(.agg [iv 1, .acc 27003 s3 2 [.agg [iv 7, iv 0], .agg [iv 6, iv 0]]])] i (.agg [iv 0, .nils])).length = i + 1 := by rw [rp_len]; simp; omega
      have tk : List.take (i + 1) (rp (α := AV) [(.agg [iv 1, .acc 27003 s3 2 [.agg [iv 7, iv 0], .agg [iv 6, iv 0]]])] i (.agg [iv 0, .nils])) = rp (α := AV) [(.agg [iv 1, .acc 27003 s3 2 [.agg [iv 7, iv 0], .agg [iv 6, iv 0]]])] i (.agg [iv 0, .nils]) := List.take_of_length_le (by omega)
      have e := rp_succ (α := AV) [(.agg [iv 1, .acc 27003 s3 2 [.agg [iv 7, iv 0], .agg [iv 6, iv 0]]])] i (.agg [iv 0, .nils])
      generalize hR : rp (α := AV) [(.agg [iv 1, .acc 27003 s3 2 [.agg [iv 7, iv 0], .agg [iv 6, iv 0]]])] i (.agg [iv 0, .nils]) = R at *
      generalize hR' : rp (α := AV) [(.agg [iv 1, .acc 27003 s3 2 [.agg [iv 7, iv 0], .agg [iv 6, iv 0]]])] (i + 1) (.agg [iv 0, .nils]) = R' at *
      simp [plim_l0, g1, g0, g6, g5, c, b, b', hlt, ws, hl, tk, z]
      simp [e]
    · have e1 : i = n := by omega
      subst e1
      simp [plim_l0, g1, g0]
      refine ⟨st, _, _, _, _, g0, g6, g5, c, ?_⟩
      have hl : (rp (α := AV) [(.agg [iv 1, .acc 27003 s3 2 [.agg [iv 7, iv 0], .agg [iv 6, iv 0]]])] i (.agg [iv 0, .nils])).length = i + 1 := by rw [rp_len]; simp; omega
      have hl2 : List.take (i + 1) (rp (α := AV) [(.agg [iv 1, .acc 27003 s3 2 [.agg [iv 7, iv 0], .agg [iv 6, iv 0]]])] i (.agg [iv 0, .nils])) = rp (α := AV) [(.agg [iv 1, .acc 27003 s3 2 [.agg [iv 7, iv 0], .agg [iv 6, iv 0]]])] i (.agg [iv 0, .nils]) := List.take_of_length_le (by omega)
      refine ⟨⟨rfl, _, by simp [getB, b]; rfl, by omega, ?_⟩, ?_⟩
      · rw [List.drop_zero, hl2]
        refine ⟨by simp [dco, elemR, coL, co1], ?_⟩
        show coL _ _ (List.map Hnd.av (List.replicate i ⟨0, []⟩))
        rw [List.map_replicate]
        exact coL_rep _ _ (by simp [dco, elemR, coL, co1]) i
      · simp [limP, dco, elemR, coL, co1, b']
theorem lim_sw1 (n : Nat) (hn : n ≤ 70) (S : St) (h : LimI n 1 S) : V Try.prog plim_k4 (fun e S' => e = .normal ∧ LimQ n 1 S') S := by
  obtain ⟨st, s3, s5, s6, s8, s11, g22, g23, g0, g5, c5, t3, b5, t6, b8, t11⟩ := h
  simp [plim_k0, plim_k1, plim_k2, plim_k3, plim_k4, g22, g23, g0, g5, c5, t3, b5, t6, b8, t11]
  refine loopN (fun i S => S.t 8 = iv i ∧ S.t 0 = iv n ∧ S.t 6 = iv 7 ∧ S.t 5 = .ptr 4005 st 4 0 0 ∧ ∃ s, S.blk 4005 = some ⟨st, 4, [.agg [.sl 1000027005 s5 2 0 1, .sl 1000027008 s 4 0 (i + 1), .acc 27011 s11 3 [.agg [iv 0, iv 0, .lst 1 [iv 5]]], iv 10]]⟩ ∧ S.blk 1000027008 = some ⟨s, 4, rp [(.agg [.acc 27006 s6 1 [iv 3], iv 2, iv (-1), .bool false])] i (.agg [.nils, iv 0, iv (-1), .bool false])⟩ ∧ S.blk 1000027005 = some ⟨s5, 2, [(.agg [iv 1, .acc 27003 s3 2 [.agg [iv 7, iv 0], .agg [iv 6, iv 0]]])]⟩) n ?_ ?_
  · simp [g0, g5, c5, t3, b5, t6, b8, t11, rp_zero, rp_zero]
  · clear g22 g23 g0 g5 c5 t3 b5 t6 b8 t11 S
    rintro i S hi ⟨g1, g0, g6, g5, s, c, b, b'⟩
    by_cases hlt : i < n
    · have ws := wrap_succ i _ hlt (by omega)
      have z : (i + 1 + 1) * 48 ≤ 140737488355328 := by omega
      have hl : (rp (α := AV) [(.agg [.acc 27006 s6 1 [iv 3], iv 2, iv (-1), .bool false])] i (.agg [.nils, iv 0, iv (-1), .bool false])).length = i + 1 := by rw [rp_len]; simp; omega
      have tk : List.take (i + 1) (rp (α := AV) [(.agg [.acc 27006 s6 1 [iv 3], iv 2, iv (-1), .bool false])] i (.agg [.nils, iv 0, iv (-1), .bool false])) = rp (α := AV) [(.agg [.acc 27006 s6 1 [iv 3], iv 2, iv (-1), .bool false])] i (.agg [.nils, iv 0, iv (-1), .bool false]) := List.take_of_length_le (by omega)
      have e := rp_succ (α := AV) [(.agg [.acc 27006 s6 1 [iv 3], iv 2, iv (-1), .bool false])] i (.agg [.nils, iv 0, iv (-1), .bool false])
      generalize hR : rp (α := AV) [(.agg [.acc 27006 s6 1 [iv 3], iv 2, iv (-1), .bool false])] i (.agg [.nils, iv 0, iv (-1), .bool false]) = R at *
      generalize hR' : rp (α := AV) [(.agg [.acc 27006 s6 1 [iv 3], iv 2, iv (-1), .bool false])] (i + 1) (.agg [.nils, iv 0, iv (-1), .bool false]) = R' at *
      simp [plim_l1, g1, g0, g6, g5, c, b, b', hlt, ws, hl, tk, z]
      simp [e]
    · have e1 : i = n := by omega
      subst e1
      simp [plim_l1, g1, g0]
      refine ⟨st, _, _, _, _, g0, g6, g5, c, ?_⟩
      have hl : (rp (α := AV) [(.agg [.acc 27006 s6 1 [iv 3], iv 2, iv (-1), .bool false])] i (.agg [.nils, iv 0, iv (-1), .bool false])).length = i + 1 := by rw [rp_len]; simp; omega
      have hl2 : List.take (i + 1) (rp (α := AV) [(.agg [.acc 27006 s6 1 [iv 3], iv 2, iv (-1), .bool false])] i (.agg [.nils, iv 0, iv (-1), .bool false])) = rp (α := AV) [(.agg [.acc 27006 s6 1 [iv 3], iv 2, iv (-1), .bool false])] i (.agg [.nils, iv 0, iv (-1), .bool false]) := List.take_of_length_le (by omega)
      refine ⟨by simp [limP, dco, elemR, coL, co1, b'], ⟨rfl, _, by simp [getB, b]; rfl, by omega, ?_⟩, ?_⟩
      · rw [List.drop_zero, hl2]
        refine ⟨by simp [dco, elemR, coL, co1], ?_⟩
        show coL _ _ (List.map Actr.av (List.replicate i ⟨[], 0, -1, false⟩))
        rw [List.map_replicate]
        exact coL_rep _ _ (by simp [dco, elemR, coL, co1]) i
      · simp [limP, dco, elemR, coL, co1]
def noteA (n : Nat) : List AV := [.agg [iv 0, iv 0, .lst 1 [iv 5]]] ++ (upI n).map fun i => .agg [iv 0, iv 0, .lst 1 [iv i]]
theorem noteA_succ (n : Nat) : noteA (n + 1) = noteA n ++ [.agg [iv 0, iv 0, .lst 1 [iv n]]] := by simp [noteA, upI_succ]
theorem noteA_len (n : Nat) : (noteA n).length = n + 1 := by simp [noteA, upI]
theorem lim_sw2 (n : Nat) (hn : n ≤ 70) (S : St) (h : LimI n 2 S) : V Try.prog plim_k4 (fun e S' => e = .normal ∧ LimQ n 2 S') S := by
  obtain ⟨st, s3, s5, s6, s8, s11, g22, g23, g0, g5, c5, t3, b5, t6, b8, t11⟩ := h
  simp [plim_k0, plim_k1, plim_k2, plim_k3, plim_k4, g22, g23, g0, g5, c5, t3, b5, t6, b8, t11]
  refine loopN (fun i S => S.t 9 = iv i ∧ S.t 0 = iv n ∧ S.t 6 = iv 15 ∧ S.t 5 = .ptr 4005 st 4 0 0 ∧ ∃ s, S.blk 4005 = some ⟨st, 4, [.agg [.sl 1000027005 s5 2 0 1, .sl 1000027008 s8 4 0 1, .acc 27011 s 3 (noteA i), iv 10]]⟩ ∧ S.tok 27011 = some ⟨s, 3, 40⟩ ∧ S.blk 1000027005 = some ⟨s5, 2, [(.agg [iv 1, .acc 27003 s3 2 [.agg [iv 7, iv 0], .agg [iv 6, iv 0]]])]⟩ ∧ S.blk 1000027008 = some ⟨s8, 4, [(.agg [.acc 27006 s6 1 [iv 3], iv 2, iv (-1), .bool false])]⟩) n ?_ ?_
  · simp [g0, g5, c5, t3, b5, t6, b8, t11, rp_zero, noteA, upI]
  · clear g22 g23 g0 g5 c5 t3 b5 t6 b8 t11 S
    rintro i S hi ⟨g1, g0, g6, g5, s, c, b, b', b''⟩
    by_cases hlt : i < n
    · have ws := wrap_succ i _ hlt (by omega)
      have z : (i + 1 + 1) * 40 ≤ 140737488355328 := by omega
      have hl := noteA_len i
      have e := noteA_succ i
      simp [plim_l2, g1, g0, g6, g5, c, b, b', b'', hlt, ws, hl, z]
      simp [e]
    · have e1 : i = n := by omega
      subst e1
      simp [plim_l2, g1, g0]
      refine ⟨st, _, _, _, _, g0, g6, g5, c, ?_⟩
      refine ⟨by simp [limP, dco, elemR, coL, co1, b'], by simp [limP, dco, elemR, coL, co1, b''], ⟨rfl, .inl ?_⟩, by simp [limP, dco, co1]⟩
      simp [noteA, limP, Function.comp_def]
theorem lim_sw3 (n : Nat) (hn : n ≤ 70) (S : St) (h : LimI n 3 S) : V Try.prog plim_k4 (fun e S' => e = .normal ∧ LimQ n 3 S') S := by
  obtain ⟨st, s3, s5, s6, s8, s11, g22, g23, g0, g5, c5, t3, b5, t6, b8, t11⟩ := h
  simp [plim_k0, plim_k1, plim_k2, plim_k3, plim_k4, g22, g23, g0, g5, c5, t3, b5, t6, b8, t11]
  refine loopN (fun i S => S.t 10 = iv i ∧ S.t 0 = iv n ∧ S.t 6 = iv 62 ∧ S.t 5 = .ptr 4005 st 4 0 0 ∧ ∃ s, S.blk 4005 = some ⟨st, 4, [.agg [.sl 1000027005 s5 2 0 1, .sl 1000027008 s8 4 0 1, .acc 27011 s11 3 [.agg [iv 0, iv 0, .lst 1 [iv 5]]], iv 10]]⟩ ∧ S.tok 27003 = some ⟨s, 2, 35⟩ ∧ S.blk 1000027005 = some ⟨s5, 2, [.agg [iv 1, .acc 27003 s 2 (rp [.agg [iv 7, iv 0], .agg [iv 6, iv 0]] i (.agg [iv 25, iv 0]))]]⟩ ∧ S.blk 1000027008 = some ⟨s8, 4, [(.agg [.acc 27006 s6 1 [iv 3], iv 2, iv (-1), .bool false])]⟩) n ?_ ?_
  · simp [g0, g5, c5, t3, b5, t6, b8, t11, rp_zero, rp_zero]
  · clear g22 g23 g0 g5 c5 t3 b5 t6 b8 t11 S
    rintro i S hi ⟨g1, g0, g6, g5, s, c, b, b', b''⟩
    by_cases hlt : i < n
    · have ws := wrap_succ i _ hlt (by omega)
      have z : (i + 2 + 1) * 16 ≤ 140737488355328 := by omega
      have hl : (rp [(.agg [iv 7, iv 0] : AV), .agg [iv 6, iv 0]] i (.agg [iv 25, iv 0])).length = i + 2 := by rw [rp_len]; simp; omega
      have e := rp_succ [(.agg [iv 7, iv 0] : AV), .agg [iv 6, iv 0]] i (.agg [iv 25, iv 0])
      generalize hR : rp [(.agg [iv 7, iv 0] : AV), .agg [iv 6, iv 0]] i (.agg [iv 25, iv 0]) = R at *
      generalize hR' : rp [(.agg [iv 7, iv 0] : AV), .agg [iv 6, iv 0]] (i + 1) (.agg [iv 25, iv 0]) = R' at *
      simp [plim_l3, g1, g0, g6, g5, c, b, b', b'', hlt, ws, hl, z]
      simp [e]
    · have e1 : i = n := by omega
      subst e1
      simp [plim_l3, g1, g0]
      refine ⟨st, _, _, _, _, g0, g6, g5, c, ?_⟩
      refine ⟨⟨rfl, _, by simp [getB, b']; rfl, by simp, ?_⟩, by simp [limP, dco, elemR, coL, co1, b''], by simp [limP, dco, elemR, coL, co1], by simp [limP, dco, co1]⟩
      refine ⟨⟨by simp [dco, co1], ⟨rfl, .inl ?_⟩, trivial⟩, trivial⟩
      simp [rp]
def regA (n : Nat) : List AV := [iv 3] ++ (upI n).map iv
theorem regA_succ (n : Nat) : regA (n + 1) = regA n ++ [iv n] := by simp [regA, upI_succ]
theorem regA_len (n : Nat) : (regA n).length = n + 1 := by simp [regA, upI]
theorem lim_sw4 (n : Nat) (hn : n ≤ 70) (S : St) (h : LimI n 4 S) : V Try.prog plim_k4 (fun e S' => e = .normal ∧ LimQ n 4 S') S := by
  obtain ⟨st, s3, s5, s6, s8, s11, g22, g23, g0, g5, c5, t3, b5, t6, b8, t11⟩ := h
  simp [plim_k0, plim_k1, plim_k2, plim_k3, plim_k4, g22, g23, g0, g5, c5, t3, b5, t6, b8, t11]
  refine loopN (fun i S => S.t 11 = iv i ∧ S.t 0 = iv n ∧ S.t 6 = iv 7 ∧ S.t 5 = .ptr 4005 st 4 0 0 ∧ ∃ s, S.blk 4005 = some ⟨st, 4, [.agg [.sl 1000027005 s5 2 0 1, .sl 1000027008 s8 4 0 1, .acc 27011 s11 3 [.agg [iv 0, iv 0, .lst 1 [iv 5]]], iv 10]]⟩ ∧ S.tok 27006 = some ⟨s, 1, 3⟩ ∧ S.blk 1000027005 = some ⟨s5, 2, [(.agg [iv 1, .acc 27003 s3 2 [.agg [iv 7, iv 0], .agg [iv 6, iv 0]]])]⟩ ∧ S.blk 1000027008 = some ⟨s8, 4, [.agg [.acc 27006 s 1 (regA i), iv 2, iv (-1), .bool false]]⟩) n ?_ ?_
  · simp [g0, g5, c5, t3, b5, t6, b8, t11, rp_zero, regA, upI]
  · clear g22 g23 g0 g5 c5 t3 b5 t6 b8 t11 S
    rintro i S hi ⟨g1, g0, g6, g5, s, c, b, b', b''⟩
    by_cases hlt : i < n
    · have ws := wrap_succ i _ hlt (by omega)
      have z : (i + 1 + 1) * 8 ≤ 140737488355328 := by omega
      have hl := regA_len i
      have e := regA_succ i
      simp [plim_l4, g1, g0, g6, g5, c, b, b', b'', hlt, ws, hl, z]
      simp [e]
    · have e1 : i = n := by omega
      subst e1
      simp [plim_l4, g1, g0]
      refine ⟨st, _, _, _, _, g0, g6, g5, c, ?_⟩
      refine ⟨by simp [limP, dco, elemR, coL, co1, b'], ⟨rfl, _, by simp [getB, b'']; rfl, by simp, ?_⟩, by simp [limP, dco, elemR, coL, co1], by simp [limP, dco, co1]⟩
      refine ⟨⟨⟨rfl, .inl ?_⟩, by simp [dco, coL, co1]⟩, trivial⟩
      simp [regA]
theorem plim_j (n : Nat) (hn : n ≤ 70) (k : Int) (j : Nat) (hj : (k.tmod 5 + 5).tmod 5 = j) (hsw : ∀ S, LimI n j S → V Try.prog plim_k4 (fun e S' => e = .normal ∧ LimQ n j S') S)
    (hw : checkV (limP n j) = if (n : Int) > limM j then 3 else 0) : PC Try.prog 4 [iv n, iv k] (.bool true) := by
  refine pc_of_get plim_get (by simp) _ (by simp) _ ?_
  unfold plim_c
  simp [show ¬ (70 : Int) < (n : Int) by omega, show ¬ (n : Int) < 0 by omega]
  refine oneL_v ?_
  intro S s3 s5 s6 s8 s9 s11 ht t3 b5 t6 b8 t11
  simp [ht, t3, b5, t6, b8, t11]
  refine call (rnd_pc k 5 (by omega)) (by simp) ?_
  rw [hj]
  simp
  refine V_cut3 (LimQ n j) (hsw _ ⟨8, s3, s5, s6, s8, s11, by simp, by simp [Int.natCast_eq_zero], by simp [ht], by simp, by simp, by simp [t3], by simp [b5], by simp [t6], by simp [b8], by simp [t11]⟩) ?_
  rintro S' ⟨st, w1, w2, w3, w4, g0, g6, g5, c5, hco⟩
  by_cases hm : (n : Int) > limM j
  · rw [if_pos hm] at hw
    simp [plim_k5, g0, g6, g5, c5, show limM j < (n : Int) from hm]
    refine callW (check_pc (limP n j)) 2 ⟨hco, trivial⟩ rfl ?_
    rw [hw]
    simp
    refine call awake_pc (by simp) ?_
    simp
  · rw [if_neg hm] at hw
    simp [plim_k5, g0, g6, g5, c5, show ¬ limM j < (n : Int) from hm]
    refine callW (check_pc (limP n j)) 2 ⟨hco, trivial⟩ rfl ?_
    rw [hw]
    simp
    refine call awake_pc (by simp) ?_
    simp
theorem progLimits_pc (n k : Int) : PC Try.prog 4 [iv n, iv k] (.bool true) := by
  by_cases h1 : n < 0
  · refine pc_of_get plim_get (by simp) _ (by simp) _ ?_
    unfold plim_c
    simp [h1]
    refine call awake_pc (by simp) ?_
    simp
  by_cases h2 : 70 < n
  · refine pc_of_get plim_get (by simp) _ (by simp) _ ?_
    unfold plim_c
    simp [h1, h2]
    refine call awake_pc (by simp) ?_
    simp
  obtain ⟨n, rfl⟩ := Int.eq_ofNat_of_zero_le (show 0 ≤ n by omega)
  have hn : n ≤ 70 := by omega
  obtain ⟨j, hj1, hj⟩ := rnd_cases k 5 (by omega)
  rcases (show j = 0 ∨ j = 1 ∨ j = 2 ∨ j = 3 ∨ j = 4 by omega) with rfl | rfl | rfl | rfl | rfl
  · exact plim_j n hn k 0 hj (lim_sw0 n hn) (lim_law0 ⟨n, by omega⟩)
  · exact plim_j n hn k 1 hj (lim_sw1 n hn) (lim_law1 ⟨n, by omega⟩)
  · exact plim_j n hn k 2 hj (lim_sw2 n hn) (lim_law2 ⟨n, by omega⟩)
  · exact plim_j n hn k 3 hj (lim_sw3 n hn) (lim_law3 ⟨n, by omega⟩)
  · exact plim_j n hn k 4 hj (lim_sw4 n hn) (lim_law4 ⟨n, by omega⟩)

end Go.Gv
