/- Texts of this proof, one behind the other. What is proved, and on which conditions, stands ahead of each. -/
import Derived.Test.YthhgjncefjnogaaProg
import Derived.Test.YthhgjncefjnogaaM97f9b44

/- The law ProgOdd answers true. No condition. -/
set_option linter.unusedVariables false
set_option linter.unusedSimpArgs false
namespace Go.Gv
open Go.Proofs

def rnd_r0 : List AI := [⟨(some 4), none, (.op (.mv (.c (.int .i64 0))))⟩]
def rnd_r1 : List AI := [⟨(some 5), none, (.op (.mv (.t 0)))⟩, ⟨(some 6), none, (.op (.mv (.t 1)))⟩, ⟨(some 7), none, (.op (.ibin .rem (.t 5) (.t 6)))⟩, ⟨(some 8), none, (.op (.mv (.t 1)))⟩, ⟨(some 9), none, (.op (.ibin .add (.t 7) (.t 8)))⟩, ⟨(some 10), none, (.op (.mv (.t 1)))⟩, ⟨(some 11), none, (.op (.ibin .rem (.t 9) (.t 10)))⟩, ⟨(some 4), none, (.op (.mv (.t 11)))⟩]
def rnd_c : AC := (.seq (.reg rnd_r0) (.seq (.reg rnd_r1) .ret))
def rnd_res : List ARes := [(.tmp 4)]
set_option maxRecDepth 100000 in
theorem rnd_get : getF Try.prog 30 30000 [] = some ("gavotte/gavottealike.Round", 12, rnd_c, rnd_res) := by kernel_rfl
def oneM_r0 : List AI := [⟨(some 0), none, (.op (.new 27000 4 (.agg [.nils, .nils, .nils, (.int .i64 0)])))⟩]
def oneM_r1 : List AI := [⟨(some 1), none, (.op (.build [(.int .i64 0), (.int .i64 0)] [(0, (1, (.c (.int .i64 7))))]))⟩, ⟨(some 2), none, (.op (.build [(.int .i64 0), (.int .i64 0)] [(0, (1, (.c (.int .i64 6))))]))⟩, ⟨(some 3), none, (.op (.bslm 1000027003 2 35 2 (.agg [(.int .i64 0), (.int .i64 0)]) [(0, (.t 1)), (1, (.t 2))]))⟩, ⟨(some 4), none, (.op (.build [(.int .i64 0), .nils] [(0, (1, (.c (.int .i64 1)))), (1, (1, (.t 3)))]))⟩, ⟨(some 5), none, (.op (.bslm 1000027005 2 33 1 (.agg [(.int .i64 0), .nils]) [(0, (.t 4))]))⟩, ⟨(some 6), none, (.op (.bsl 27006 1 3 1 (.int .i64 0) [(0, (.c (.int .i64 3)))]))⟩, ⟨(some 7), none, (.op (.build [.nils, (.int .i64 0), (.int .i64 0), (.bool false)] [(0, (1, (.t 6))), (1, (1, (.c (.int .i64 2)))), (2, (1, (.c (.int .i64 (-1)))))]))⟩, ⟨(some 8), none, (.op (.bslm 1000027008 4 38 1 (.agg [.nils, (.int .i64 0), (.int .i64 0), (.bool false)]) [(0, (.t 7))]))⟩, ⟨(some 9), none, (.op (.bsl 27009 1 3 1 (.int .i64 0) [(0, (.c (.int .i64 5)))]))⟩, ⟨(some 10), none, (.op (.build [(.int .i64 0), (.int .i64 0), .nils] [(2, (1, (.t 9)))]))⟩, ⟨(some 11), none, (.op (.bslm 1000027011 3 40 1 (.agg [(.int .i64 0), (.int .i64 0), .nils]) [(0, (.t 10))]))⟩, ⟨(some 12), none, (.op (.build [.nils, .nils, .nils, (.int .i64 0)] [(0, (1, (.t 5))), (1, (1, (.t 8))), (2, (1, (.t 11))), (3, (1, (.c (.int .i64 10))))]))⟩, ⟨none, none, (.op (.store 4 (.t 0) (.t 12)))⟩]
def oneM_c : AC := (.seq (.reg oneM_r0) (.seq (.reg oneM_r1) .ret))
def oneM_res : List ARes := [(.cell (some 4) 0)]
set_option maxRecDepth 100000 in
theorem oneM_get : getF Try.prog 29 27000 [(3, 1000000003), (5, 1000000005), (8, 1000000008), (11, 1000000011)] = some ("gavotte/gavottelaw3.one", 13, oneM_c, oneM_res) := by kernel_rfl
def podd_r0 : List AI := [⟨(some 2), none, (.op (.mv (.c (.bool false))))⟩]
def podd_r1 : List AI := [⟨(some 8), none, (.op (.mv (.t 0)))⟩, ⟨(some 9), none, (.call (.c (.fn 30 [])) [(.t 8), (.c (.int .i64 16))])⟩, ⟨(some 3), none, (.op (.mv (.t 9)))⟩]
def podd_r2 : List AI := [⟨(some 10), none, (.call (.c (.fn 29 [])) [])⟩, ⟨(some 4), none, (.op (.new 5004 4 (.agg [.nils, .nils, .nils, (.int .i64 0)])))⟩, ⟨none, none, (.op (.store 4 (.t 4) (.t 10)))⟩]
def podd_r3 : List AI := [⟨(some 11), none, (.op (.fld 0 (.t 4)))⟩, ⟨(some 12), none, (.op (.load none (.t 11)))⟩, ⟨(some 13), none, (.op (.idx 2 (.t 12) (.c (.int .i64 0))))⟩, ⟨(some 14), none, (.op (.fld 1 (.t 13)))⟩, ⟨(some 15), none, (.op (.load none (.t 14)))⟩, ⟨(some 16), none, (.op (.idx 2 (.t 15) (.c (.int .i64 0))))⟩, ⟨(some 5), none, (.op (.mv (.t 16)))⟩]
def podd_r4 : List AI := [⟨(some 17), none, (.op (.fld 1 (.t 4)))⟩, ⟨(some 18), none, (.op (.load none (.t 17)))⟩, ⟨(some 19), none, (.op (.idx 4 (.t 18) (.c (.int .i64 0))))⟩, ⟨(some 6), none, (.op (.mv (.t 19)))⟩]
def podd_r5 : List AI := [⟨(some 7), none, (.op (.mv (.c (.int .i64 1))))⟩]
def podd_r6 : List AI := [⟨(some 20), none, (.op (.mv (.t 3)))⟩]
def podd_r7 : List AI := [⟨(some 22), none, (.op (.ibin .eql (.t 20) (.c (.int .i64 0))))⟩, ⟨(some 21), none, (.op (.mv (.t 22)))⟩]
def podd_r8 : List AI := [⟨(some 23), none, (.op (.fld 3 (.t 4)))⟩, ⟨none, none, (.op (.store 1 (.t 23) (.c (.int .i64 257))))⟩]
def podd_r9 : List AI := [⟨(some 25), none, (.op (.ibin .eql (.t 20) (.c (.int .i64 1))))⟩, ⟨(some 24), none, (.op (.mv (.t 25)))⟩]
def podd_r10 : List AI := [⟨(some 26), none, (.op (.fld 1 (.t 4)))⟩, ⟨none, none, (.op (.store 1 (.t 26) (.c .nils)))⟩]
def podd_r11 : List AI := [⟨(some 28), none, (.op (.ibin .eql (.t 20) (.c (.int .i64 2))))⟩, ⟨(some 27), none, (.op (.mv (.t 28)))⟩]
def podd_r12 : List AI := [⟨(some 29), none, (.op (.fld 0 (.t 4)))⟩, ⟨(some 30), none, (.op (.load none (.t 29)))⟩, ⟨(some 31), none, (.op (.idx 2 (.t 30) (.c (.int .i64 0))))⟩, ⟨(some 32), none, (.op (.fld 0 (.t 31)))⟩, ⟨none, none, (.op (.store 1 (.t 32) (.c (.int .i64 5))))⟩]
def podd_r13 : List AI := [⟨(some 34), none, (.op (.ibin .eql (.t 20) (.c (.int .i64 3))))⟩, ⟨(some 33), none, (.op (.mv (.t 34)))⟩]
def podd_r14 : List AI := [⟨(some 35), none, (.op (.mv (.t 5)))⟩, ⟨(some 36), none, (.op (.build [(.int .i64 0), (.int .i64 0)] [(0, (1, (.c (.int .i64 26))))]))⟩, ⟨(some 37), none, (.op (.nilck (.t 35)))⟩, ⟨none, none, (.op (.store 2 (.t 37) (.t 36)))⟩]
def podd_r15 : List AI := [⟨(some 39), none, (.op (.ibin .eql (.t 20) (.c (.int .i64 4))))⟩, ⟨(some 38), none, (.op (.mv (.t 39)))⟩]
def podd_r16 : List AI := [⟨(some 40), none, (.op (.mv (.t 5)))⟩, ⟨(some 41), none, (.op (.build [(.int .i64 0), (.int .i64 0)] [(0, (1, (.c (.int .i64 9)))), (1, (1, (.c (.int .i64 1))))]))⟩, ⟨(some 42), none, (.op (.nilck (.t 40)))⟩, ⟨none, none, (.op (.store 2 (.t 42) (.t 41)))⟩]
def podd_r17 : List AI := [⟨(some 44), none, (.op (.ibin .eql (.t 20) (.c (.int .i64 5))))⟩, ⟨(some 43), none, (.op (.mv (.t 44)))⟩]
def podd_r18 : List AI := [⟨(some 45), none, (.op (.mv (.t 5)))⟩, ⟨(some 46), none, (.op (.build [(.int .i64 0), (.int .i64 0)] [(0, (1, (.c (.int .i64 20)))), (1, (1, (.c (.int .i64 3))))]))⟩, ⟨(some 47), none, (.op (.nilck (.t 45)))⟩, ⟨none, none, (.op (.store 2 (.t 47) (.t 46)))⟩]
def podd_r19 : List AI := [⟨(some 7), none, (.op (.mv (.c (.int .i64 4))))⟩]
def podd_r20 : List AI := [⟨(some 49), none, (.op (.ibin .eql (.t 20) (.c (.int .i64 6))))⟩, ⟨(some 48), none, (.op (.mv (.t 49)))⟩]
def podd_r21 : List AI := [⟨(some 50), none, (.op (.mv (.t 5)))⟩, ⟨(some 51), none, (.op (.build [(.int .i64 0), (.int .i64 0)] [(0, (1, (.c (.int .i64 5)))), (1, (1, (.c (.int .i64 8))))]))⟩, ⟨(some 52), none, (.op (.nilck (.t 50)))⟩, ⟨none, none, (.op (.store 2 (.t 52) (.t 51)))⟩]
def podd_r22 : List AI := [⟨(some 7), none, (.op (.mv (.c (.int .i64 6))))⟩]
def podd_r23 : List AI := [⟨(some 54), none, (.op (.ibin .eql (.t 20) (.c (.int .i64 7))))⟩, ⟨(some 53), none, (.op (.mv (.t 54)))⟩]
def podd_r24 : List AI := [⟨(some 55), none, (.op (.mv (.t 5)))⟩, ⟨(some 56), none, (.op (.build [(.int .i64 0), (.int .i64 0)] [(0, (1, (.c (.int .i64 7)))), (1, (1, (.c (.int .i64 1))))]))⟩, ⟨(some 57), none, (.op (.nilck (.t 55)))⟩, ⟨none, none, (.op (.store 2 (.t 57) (.t 56)))⟩]
def podd_r25 : List AI := [⟨(some 7), none, (.op (.mv (.c (.int .i64 6))))⟩]
def podd_r26 : List AI := [⟨(some 59), none, (.op (.ibin .eql (.t 20) (.c (.int .i64 8))))⟩, ⟨(some 58), none, (.op (.mv (.t 59)))⟩]
def podd_r27 : List AI := [⟨(some 60), none, (.op (.mv (.t 5)))⟩, ⟨(some 61), none, (.op (.build [(.int .i64 0), (.int .i64 0)] [(0, (1, (.c (.int .i64 22)))), (1, (1, (.c (.int .i64 1))))]))⟩, ⟨(some 62), none, (.op (.nilck (.t 60)))⟩, ⟨none, none, (.op (.store 2 (.t 62) (.t 61)))⟩]
def podd_r28 : List AI := [⟨(some 7), none, (.op (.mv (.c (.int .i64 7))))⟩]
def podd_r29 : List AI := [⟨(some 64), none, (.op (.ibin .eql (.t 20) (.c (.int .i64 9))))⟩, ⟨(some 63), none, (.op (.mv (.t 64)))⟩]
def podd_r30 : List AI := [⟨(some 65), none, (.op (.mv (.t 6)))⟩, ⟨(some 66), none, (.op (.nilck (.t 65)))⟩, ⟨(some 67), none, (.op (.fld 1 (.t 66)))⟩, ⟨none, none, (.op (.store 1 (.t 67) (.c (.int .i64 17))))⟩]
def podd_r31 : List AI := [⟨(some 69), none, (.op (.ibin .eql (.t 20) (.c (.int .i64 10))))⟩, ⟨(some 68), none, (.op (.mv (.t 69)))⟩]
def podd_r32 : List AI := [⟨(some 70), none, (.op (.mv (.t 6)))⟩, ⟨(some 71), none, (.op (.nilck (.t 70)))⟩, ⟨(some 72), none, (.op (.fld 2 (.t 71)))⟩, ⟨none, none, (.op (.store 1 (.t 72) (.c (.int .i64 0))))⟩]
def podd_r33 : List AI := [⟨(some 7), none, (.op (.mv (.c (.int .i64 7))))⟩]
def podd_r34 : List AI := [⟨(some 74), none, (.op (.ibin .eql (.t 20) (.c (.int .i64 11))))⟩, ⟨(some 73), none, (.op (.mv (.t 74)))⟩]
def podd_r35 : List AI := [⟨(some 75), none, (.op (.mv (.t 6)))⟩, ⟨(some 76), none, (.op (.nilck (.t 75)))⟩, ⟨(some 77), none, (.op (.fld 2 (.t 76)))⟩, ⟨none, none, (.op (.store 1 (.t 77) (.c (.int .i64 (-2)))))⟩]
def podd_r36 : List AI := [⟨(some 7), none, (.op (.mv (.c (.int .i64 7))))⟩]
def podd_r37 : List AI := [⟨(some 79), none, (.op (.ibin .eql (.t 20) (.c (.int .i64 12))))⟩, ⟨(some 78), none, (.op (.mv (.t 79)))⟩]
def podd_r38 : List AI := [⟨(some 80), none, (.op (.mv (.t 6)))⟩, ⟨(some 81), none, (.op (.nilck (.t 80)))⟩, ⟨(some 82), none, (.op (.fld 3 (.t 81)))⟩, ⟨none, none, (.op (.store 1 (.t 82) (.c (.bool true))))⟩]
def podd_r39 : List AI := [⟨(some 84), none, (.op (.ibin .eql (.t 20) (.c (.int .i64 13))))⟩, ⟨(some 83), none, (.op (.mv (.t 84)))⟩]
def podd_r40 : List AI := [⟨(some 85), none, (.op (.fld 2 (.t 4)))⟩, ⟨(some 86), none, (.op (.load none (.t 85)))⟩, ⟨(some 87), none, (.op (.idx 3 (.t 86) (.c (.int .i64 0))))⟩, ⟨(some 88), none, (.op (.fld 0 (.t 87)))⟩, ⟨none, none, (.op (.store 1 (.t 88) (.c (.int .i64 1))))⟩]
def podd_r41 : List AI := [⟨(some 7), none, (.op (.mv (.c (.int .i64 7))))⟩]
def podd_r42 : List AI := [⟨(some 90), none, (.op (.ibin .eql (.t 20) (.c (.int .i64 14))))⟩, ⟨(some 89), none, (.op (.mv (.t 90)))⟩]
def podd_r43 : List AI := [⟨(some 91), none, (.op (.fld 2 (.t 4)))⟩, ⟨(some 92), none, (.op (.load none (.t 91)))⟩, ⟨(some 93), none, (.op (.idx 3 (.t 92) (.c (.int .i64 0))))⟩, ⟨(some 94), none, (.op (.fld 1 (.t 93)))⟩, ⟨none, none, (.op (.store 1 (.t 94) (.c (.int .i64 (-1)))))⟩]
def podd_r44 : List AI := [⟨(some 7), none, (.op (.mv (.c (.int .i64 7))))⟩]
def podd_r45 : List AI := [⟨(some 96), none, (.op (.ibin .eql (.t 20) (.c (.int .i64 15))))⟩, ⟨(some 95), none, (.op (.mv (.t 96)))⟩]
def podd_r46 : List AI := [⟨(some 97), none, (.op (.fld 2 (.t 4)))⟩, ⟨(some 98), none, (.op (.load none (.t 97)))⟩, ⟨(some 99), none, (.op (.idx 3 (.t 98) (.c (.int .i64 0))))⟩, ⟨(some 100), none, (.op (.fld 2 (.t 99)))⟩, ⟨none, none, (.op (.store 1 (.t 100) (.c .nils)))⟩]
def podd_k0 : AC := (.cond (.t 95) (.reg podd_r46) .skip)
def podd_k1 : AC := (.cond (.t 89) (.seq (.reg podd_r43) (.reg podd_r44)) (.seq (.reg podd_r45) podd_k0))
def podd_k2 : AC := (.cond (.t 83) (.seq (.reg podd_r40) (.reg podd_r41)) (.seq (.reg podd_r42) podd_k1))
def podd_k3 : AC := (.cond (.t 78) (.reg podd_r38) (.seq (.reg podd_r39) podd_k2))
def podd_k4 : AC := (.cond (.t 73) (.seq (.reg podd_r35) (.reg podd_r36)) (.seq (.reg podd_r37) podd_k3))
def podd_k5 : AC := (.cond (.t 68) (.seq (.reg podd_r32) (.reg podd_r33)) (.seq (.reg podd_r34) podd_k4))
def podd_k6 : AC := (.cond (.t 63) (.reg podd_r30) (.seq (.reg podd_r31) podd_k5))
def podd_k7 : AC := (.cond (.t 58) (.seq (.reg podd_r27) (.reg podd_r28)) (.seq (.reg podd_r29) podd_k6))
def podd_k8 : AC := (.cond (.t 53) (.seq (.reg podd_r24) (.reg podd_r25)) (.seq (.reg podd_r26) podd_k7))
def podd_k9 : AC := (.cond (.t 48) (.seq (.reg podd_r21) (.reg podd_r22)) (.seq (.reg podd_r23) podd_k8))
def podd_k10 : AC := (.cond (.t 43) (.seq (.reg podd_r18) (.reg podd_r19)) (.seq (.reg podd_r20) podd_k9))
def podd_k11 : AC := (.cond (.t 38) (.reg podd_r16) (.seq (.reg podd_r17) podd_k10))
def podd_k12 : AC := (.cond (.t 33) (.reg podd_r14) (.seq (.reg podd_r15) podd_k11))
def podd_k13 : AC := (.cond (.t 27) (.reg podd_r12) (.seq (.reg podd_r13) podd_k12))
def podd_k14 : AC := (.cond (.t 24) (.reg podd_r10) (.seq (.reg podd_r11) podd_k13))
def podd_k15 : AC := (.cond (.t 21) (.reg podd_r8) (.seq (.reg podd_r9) podd_k14))
def podd_r47 : List AI := [⟨(some 101), none, (.op (.load (some 4) (.t 4)))⟩, ⟨(some 102), none, (.call (.c (.fn 31 [])) [(.t 101)])⟩, ⟨(some 103), none, (.op (.mv (.t 7)))⟩, ⟨(some 104), none, (.op (.ibin .eql (.t 102) (.t 103)))⟩, ⟨(some 105), none, (.op (.mv (.t 104)))⟩, ⟨(some 106), (some (105, true)), (.call (.c (.fn 29 [])) [])⟩, ⟨(some 107), (some (105, true)), (.call (.c (.fn 31 [])) [(.t 106)])⟩, ⟨(some 108), (some (105, true)), (.op (.ibin .eql (.t 107) (.c (.int .i64 0))))⟩, ⟨(some 109), none, (.op (.pick (.t 105) (.t 108) (.c (.bool false))))⟩, ⟨(some 110), none, (.op (.mv (.t 109)))⟩, ⟨(some 111), (some (110, true)), (.call (.c (.fn 25 [])) [])⟩, ⟨(some 112), none, (.op (.pick (.t 110) (.t 111) (.c (.bool false))))⟩, ⟨(some 2), none, (.op (.mv (.t 112)))⟩]
def podd_c : AC := (.seq (.reg podd_r0) (.seq (.reg podd_r1) (.seq (.reg podd_r2) (.seq (.reg podd_r3) (.seq (.reg podd_r4) (.seq (.reg podd_r5) (.seq (.seq (.reg podd_r6) (.block 0 (.seq (.reg podd_r7) podd_k15))) (.seq (.reg podd_r47) .ret))))))))
def podd_res : List ARes := [(.tmp 2)]
set_option maxRecDepth 100000 in
theorem podd_get : getF Try.prog 5 5000 [] = some ("gavotte/gavottelaw3.ProgOdd", 113, podd_c, podd_res) := by kernel_rfl
attribute [simp] rnd_r0 rnd_r1 rnd_res oneM_r0 oneM_r1 oneM_res podd_r0 podd_r1 podd_r2 podd_r3 podd_r4 podd_r5 podd_r6 podd_r7 podd_r8 podd_r9 podd_r10 podd_r11 podd_r12 podd_r13 podd_r14 podd_r15 podd_r16 podd_r17 podd_r18 podd_r19 podd_r20 podd_r21 podd_r22 podd_r23 podd_r24 podd_r25 podd_r26 podd_r27 podd_r28 podd_r29 podd_r30 podd_r31 podd_r32 podd_r33 podd_r34 podd_r35 podd_r36 podd_r37 podd_r38 podd_r39 podd_r40 podd_r41 podd_r42 podd_r43 podd_r44 podd_r45 podd_r46 podd_r47 podd_res

theorem V_cut3 {P : Program} {a : AC} {κ : Ex → St → Prop} {S : St} (Q : St → Prop) (h : V P a (fun e S' => e = .normal ∧ Q S') S) (hk : ∀ S', Q S' → κ .normal S') : V P a κ S :=
  V_mono a (by rintro e S' ⟨rfl, q⟩; exact hk S' q) h
theorem rnd_pc (k n : Int) (hn : 0 < n ∧ n ≤ 1000) : PC Try.prog 30 [iv k, iv n] (iv ((k.tmod n + n).tmod n)) := by
  refine pc_of_get rnd_get (by simp) _ (by simp) _ ?_
  unfold rnd_c
  have a1 := Int.tmod_lt_of_pos k hn.1
  have a2 := Int.lt_tmod_of_pos k hn.1
  have h1 : IntKind.i64.wrap (k.tmod n + n) = k.tmod n + n := wrap_in _ (by omega) (by omega)
  have h2 : n ≠ 0 := by omega
  simp [h1, h2]
theorem rnd_cases (k n : Int) (hn : 0 < n) : ∃ j : Nat, (j : Int) < n ∧ (k.tmod n + n).tmod n = (j : Int) := by
  have a1 := Int.tmod_lt_of_pos k hn
  have a2 := Int.lt_tmod_of_pos k hn
  rw [Int.tmod_eq_emod_of_nonneg (by omega)]
  have b1 := Int.emod_nonneg (k.tmod n + n) (show n ≠ 0 by omega)
  have b2 := Int.emod_lt_of_pos (k.tmod n + n) hn
  exact ⟨((k.tmod n + n) % n).toNat, by omega, by omega⟩
/-- A program in mutable blocks. -/
theorem oneM_v {S : St} {k : AV → St → Prop} {u : Dep k}
    (hk : ∀ (S' : St) (s3 s5 s8 s11 a b : Nat), S'.t = S.t → (∀ n, 27000 ≤ n → n < 28000 → True) → (∀ n, n < 27000 → S'.blk n = S.blk n) → (∀ n, n < 27000 → S'.tok n = S.tok n) →
      S'.blk 1000027003 = some ⟨s3, 2, [.agg [iv 7, iv 0], .agg [iv 6, iv 0]]⟩ → S'.blk 1000027005 = some ⟨s5, 2, [.agg [iv 1, .sl 1000027003 s3 2 0 2]]⟩ →
      S'.blk 1000027008 = some ⟨s8, 4, [.agg [.acc 27006 a 1 [iv 3], iv 2, iv (-1), .bool false]]⟩ → S'.blk 1000027011 = some ⟨s11, 3, [.agg [iv 0, iv 0, .acc 27009 b 1 [iv 5]]]⟩ →
      k (.agg [.sl 1000027005 s5 2 0 1, .sl 1000027008 s8 4 0 1, .sl 1000027011 s11 3 0 1, iv 10]) S') : CallG Try.prog (.fn 29 []) [] S k u := by
  refine callV oneM_get (by simp) (by simp) ?_
  unfold oneM_c
  simp
  refine hk _ (S.clk + 1 + 1 + 1) (S.clk + 1 + 1 + 1 + 1 + 1) (S.clk + 1 + 1 + 1 + 1 + 1 + 1 + 1 + 1) (S.clk + 1 + 1 + 1 + 1 + 1 + 1 + 1 + 1 + 1 + 1 + 1) (S.clk + 1 + 1 + 1 + 1 + 1 + 1) (S.clk + 1 + 1 + 1 + 1 + 1 + 1 + 1 + 1 + 1) rfl (fun _ _ _ => trivial) (fun n hn => ?_) (fun n hn => ?_) ?_ ?_ ?_ ?_
  · simp [show n ≠ 27000 by omega, show n ≠ 1000027003 by omega, show n ≠ 1000027005 by omega, show n ≠ 1000027008 by omega, show n ≠ 1000027011 by omega]
  · simp [show n ≠ 27006 by omega, show n ≠ 27009 by omega]
  all_goals simp
def oddP : Nat → Prg
  | 0 => ⟨[⟨1, [⟨7, 0⟩, ⟨6, 0⟩]⟩], [⟨[3], 2, -1, false⟩], [⟨0, 0, [5]⟩], 257⟩
  | 1 => ⟨[⟨1, [⟨7, 0⟩, ⟨6, 0⟩]⟩], [], [⟨0, 0, [5]⟩], 10⟩
  | 2 => ⟨[⟨5, [⟨7, 0⟩, ⟨6, 0⟩]⟩], [⟨[3], 2, -1, false⟩], [⟨0, 0, [5]⟩], 10⟩
  | 3 => ⟨[⟨1, [⟨26, 0⟩, ⟨6, 0⟩]⟩], [⟨[3], 2, -1, false⟩], [⟨0, 0, [5]⟩], 10⟩
  | 4 => ⟨[⟨1, [⟨9, 1⟩, ⟨6, 0⟩]⟩], [⟨[3], 2, -1, false⟩], [⟨0, 0, [5]⟩], 10⟩
  | 5 => ⟨[⟨1, [⟨20, 3⟩, ⟨6, 0⟩]⟩], [⟨[3], 2, -1, false⟩], [⟨0, 0, [5]⟩], 10⟩
  | 6 => ⟨[⟨1, [⟨5, 8⟩, ⟨6, 0⟩]⟩], [⟨[3], 2, -1, false⟩], [⟨0, 0, [5]⟩], 10⟩
  | 7 => ⟨[⟨1, [⟨7, 1⟩, ⟨6, 0⟩]⟩], [⟨[3], 2, -1, false⟩], [⟨0, 0, [5]⟩], 10⟩
  | 8 => ⟨[⟨1, [⟨22, 1⟩, ⟨6, 0⟩]⟩], [⟨[3], 2, -1, false⟩], [⟨0, 0, [5]⟩], 10⟩
  | 9 => ⟨[⟨1, [⟨7, 0⟩, ⟨6, 0⟩]⟩], [⟨[3], 17, -1, false⟩], [⟨0, 0, [5]⟩], 10⟩
  | 10 => ⟨[⟨1, [⟨7, 0⟩, ⟨6, 0⟩]⟩], [⟨[3], 2, 0, false⟩], [⟨0, 0, [5]⟩], 10⟩
  | 11 => ⟨[⟨1, [⟨7, 0⟩, ⟨6, 0⟩]⟩], [⟨[3], 2, -2, false⟩], [⟨0, 0, [5]⟩], 10⟩
  | 12 => ⟨[⟨1, [⟨7, 0⟩, ⟨6, 0⟩]⟩], [⟨[3], 2, -1, true⟩], [⟨0, 0, [5]⟩], 10⟩
  | 13 => ⟨[⟨1, [⟨7, 0⟩, ⟨6, 0⟩]⟩], [⟨[3], 2, -1, false⟩], [⟨1, 0, [5]⟩], 10⟩
  | 14 => ⟨[⟨1, [⟨7, 0⟩, ⟨6, 0⟩]⟩], [⟨[3], 2, -1, false⟩], [⟨0, -1, [5]⟩], 10⟩
  | _ => ⟨[⟨1, [⟨7, 0⟩, ⟨6, 0⟩]⟩], [⟨[3], 2, -1, false⟩], [⟨0, 0, []⟩], 10⟩
def oddW : Nat → Int
  | 0 => 1
  | 1 => 1
  | 2 => 1
  | 3 => 1
  | 4 => 1
  | 5 => 4
  | 6 => 6
  | 7 => 6
  | 8 => 7
  | 9 => 1
  | 10 => 7
  | 11 => 7
  | 12 => 1
  | 13 => 7
  | 14 => 7
  | _ => 1
/-- What the switch leaves. -/
def OddQ (n : Nat) (S : St) : Prop := ∃ st w1 w2 w3 w4, S.t 4 = .ptr 5004 st 4 0 0 ∧ S.blk 5004 = some ⟨st, 4, [.agg [w1, w2, w3, w4]]⟩ ∧ S.t 7 = iv (oddW n) ∧ elemR (dco S.blk 2) (.agg [w1, w2, w3, w4]) (oddP n).av
/-- What is there ahead of the switch. -/
def OddI (n : Nat) (S : St) : Prop := ∃ st s3 s5 s8 s11 a b, S.t 20 = iv n ∧ S.t 21 = .bool (decide ((n : Int) = 0)) ∧ S.t 4 = .ptr 5004 st 4 0 0 ∧ S.blk 5004 = some ⟨st, 4, [.agg [.sl 1000027005 s5 2 0 1, .sl 1000027008 s8 4 0 1, .sl 1000027011 s11 3 0 1, iv 10]]⟩ ∧ S.t 7 = iv 1 ∧
  S.t 5 = .ptr 1000027003 s3 2 0 0 ∧ S.t 6 = .ptr 1000027008 s8 4 0 0 ∧
  S.blk 1000027003 = some ⟨s3, 2, [.agg [iv 7, iv 0], .agg [iv 6, iv 0]]⟩ ∧ S.blk 1000027005 = some ⟨s5, 2, [.agg [iv 1, .sl 1000027003 s3 2 0 2]]⟩ ∧
  S.blk 1000027008 = some ⟨s8, 4, [.agg [.acc 27006 a 1 [iv 3], iv 2, iv (-1), .bool false]]⟩ ∧ S.blk 1000027011 = some ⟨s11, 3, [.agg [iv 0, iv 0, .acc 27009 b 1 [iv 5]]]⟩
theorem podd_sw0 (S : St) (h : OddI 0 S) : V Try.prog podd_k15 (fun e S' => e = .normal ∧ OddQ 0 S') S := by
  obtain ⟨st, s3, s5, s8, s11, a, b, g20, g21, g4, c4, g7, g5, g6, b3, b5, b8, b11⟩ := h
  simp [podd_k0, podd_k1, podd_k2, podd_k3, podd_k4, podd_k5, podd_k6, podd_k7, podd_k8, podd_k9, podd_k10, podd_k11, podd_k12, podd_k13, podd_k14, podd_k15, g21, g20, g4, c4, g7, g5, g6, b3, b5, b8, b11]
  refine ⟨st, .sl 1000027005 s5 2 0 1, .sl 1000027008 s8 4 0 1, .sl 1000027011 s11 3 0 1, iv 257, by simp [g4], by simp [c4], by simp [g7, oddW], ?_⟩
  simp [oddP, dco, elemR, coL, co1, b3, b5, b8, b11]
theorem podd_sw1 (S : St) (h : OddI 1 S) : V Try.prog podd_k15 (fun e S' => e = .normal ∧ OddQ 1 S') S := by
  obtain ⟨st, s3, s5, s8, s11, a, b, g20, g21, g4, c4, g7, g5, g6, b3, b5, b8, b11⟩ := h
  simp [podd_k0, podd_k1, podd_k2, podd_k3, podd_k4, podd_k5, podd_k6, podd_k7, podd_k8, podd_k9, podd_k10, podd_k11, podd_k12, podd_k13, podd_k14, podd_k15, g21, g20, g4, c4, g7, g5, g6, b3, b5, b8, b11]
  refine ⟨st, .sl 1000027005 s5 2 0 1, .nils, .sl 1000027011 s11 3 0 1, iv 10, by simp [g4], by simp [c4], by simp [g7, oddW], ?_⟩
  simp [oddP, dco, elemR, coL, co1, b3, b5, b8, b11]
theorem podd_sw2 (S : St) (h : OddI 2 S) : V Try.prog podd_k15 (fun e S' => e = .normal ∧ OddQ 2 S') S := by
  obtain ⟨st, s3, s5, s8, s11, a, b, g20, g21, g4, c4, g7, g5, g6, b3, b5, b8, b11⟩ := h
  simp [podd_k0, podd_k1, podd_k2, podd_k3, podd_k4, podd_k5, podd_k6, podd_k7, podd_k8, podd_k9, podd_k10, podd_k11, podd_k12, podd_k13, podd_k14, podd_k15, g21, g20, g4, c4, g7, g5, g6, b3, b5, b8, b11]
  refine ⟨st, .sl 1000027005 s5 2 0 1, .sl 1000027008 s8 4 0 1, .sl 1000027011 s11 3 0 1, iv 10, by simp [g4], by simp [c4], by simp [g7, oddW], ?_⟩
  simp [oddP, dco, elemR, coL, co1, b3, b5, b8, b11]
theorem podd_sw3 (S : St) (h : OddI 3 S) : V Try.prog podd_k15 (fun e S' => e = .normal ∧ OddQ 3 S') S := by
  obtain ⟨st, s3, s5, s8, s11, a, b, g20, g21, g4, c4, g7, g5, g6, b3, b5, b8, b11⟩ := h
  simp [podd_k0, podd_k1, podd_k2, podd_k3, podd_k4, podd_k5, podd_k6, podd_k7, podd_k8, podd_k9, podd_k10, podd_k11, podd_k12, podd_k13, podd_k14, podd_k15, g21, g20, g4, c4, g7, g5, g6, b3, b5, b8, b11]
  refine ⟨st, .sl 1000027005 s5 2 0 1, .sl 1000027008 s8 4 0 1, .sl 1000027011 s11 3 0 1, iv 10, by simp [g4], by simp [c4], by simp [g7, oddW], ?_⟩
  simp [oddP, dco, elemR, coL, co1, b3, b5, b8, b11]
theorem podd_sw4 (S : St) (h : OddI 4 S) : V Try.prog podd_k15 (fun e S' => e = .normal ∧ OddQ 4 S') S := by
  obtain ⟨st, s3, s5, s8, s11, a, b, g20, g21, g4, c4, g7, g5, g6, b3, b5, b8, b11⟩ := h
  simp [podd_k0, podd_k1, podd_k2, podd_k3, podd_k4, podd_k5, podd_k6, podd_k7, podd_k8, podd_k9, podd_k10, podd_k11, podd_k12, podd_k13, podd_k14, podd_k15, g21, g20, g4, c4, g7, g5, g6, b3, b5, b8, b11]
  refine ⟨st, .sl 1000027005 s5 2 0 1, .sl 1000027008 s8 4 0 1, .sl 1000027011 s11 3 0 1, iv 10, by simp [g4], by simp [c4], by simp [g7, oddW], ?_⟩
  simp [oddP, dco, elemR, coL, co1, b3, b5, b8, b11]
theorem podd_sw5 (S : St) (h : OddI 5 S) : V Try.prog podd_k15 (fun e S' => e = .normal ∧ OddQ 5 S') S := by
  obtain ⟨st, s3, s5, s8, s11, a, b, g20, g21, g4, c4, g7, g5, g6, b3, b5, b8, b11⟩ := h
  simp [podd_k0, podd_k1, podd_k2, podd_k3, podd_k4, podd_k5, podd_k6, podd_k7, podd_k8, podd_k9, podd_k10, podd_k11, podd_k12, podd_k13, podd_k14, podd_k15, g21, g20, g4, c4, g7, g5, g6, b3, b5, b8, b11]
  refine ⟨st, .sl 1000027005 s5 2 0 1, .sl 1000027008 s8 4 0 1, .sl 1000027011 s11 3 0 1, iv 10, by simp [g4], by simp [c4], by simp [g7, oddW], ?_⟩
  simp [oddP, dco, elemR, coL, co1, b3, b5, b8, b11]
theorem podd_sw6 (S : St) (h : OddI 6 S) : V Try.prog podd_k15 (fun e S' => e = .normal ∧ OddQ 6 S') S := by
  obtain ⟨st, s3, s5, s8, s11, a, b, g20, g21, g4, c4, g7, g5, g6, b3, b5, b8, b11⟩ := h
  simp [podd_k0, podd_k1, podd_k2, podd_k3, podd_k4, podd_k5, podd_k6, podd_k7, podd_k8, podd_k9, podd_k10, podd_k11, podd_k12, podd_k13, podd_k14, podd_k15, g21, g20, g4, c4, g7, g5, g6, b3, b5, b8, b11]
  refine ⟨st, .sl 1000027005 s5 2 0 1, .sl 1000027008 s8 4 0 1, .sl 1000027011 s11 3 0 1, iv 10, by simp [g4], by simp [c4], by simp [g7, oddW], ?_⟩
  simp [oddP, dco, elemR, coL, co1, b3, b5, b8, b11]
theorem podd_sw7 (S : St) (h : OddI 7 S) : V Try.prog podd_k15 (fun e S' => e = .normal ∧ OddQ 7 S') S := by
  obtain ⟨st, s3, s5, s8, s11, a, b, g20, g21, g4, c4, g7, g5, g6, b3, b5, b8, b11⟩ := h
  simp [podd_k0, podd_k1, podd_k2, podd_k3, podd_k4, podd_k5, podd_k6, podd_k7, podd_k8, podd_k9, podd_k10, podd_k11, podd_k12, podd_k13, podd_k14, podd_k15, g21, g20, g4, c4, g7, g5, g6, b3, b5, b8, b11]
  refine ⟨st, .sl 1000027005 s5 2 0 1, .sl 1000027008 s8 4 0 1, .sl 1000027011 s11 3 0 1, iv 10, by simp [g4], by simp [c4], by simp [g7, oddW], ?_⟩
  simp [oddP, dco, elemR, coL, co1, b3, b5, b8, b11]
theorem podd_sw8 (S : St) (h : OddI 8 S) : V Try.prog podd_k15 (fun e S' => e = .normal ∧ OddQ 8 S') S := by
  obtain ⟨st, s3, s5, s8, s11, a, b, g20, g21, g4, c4, g7, g5, g6, b3, b5, b8, b11⟩ := h
  simp [podd_k0, podd_k1, podd_k2, podd_k3, podd_k4, podd_k5, podd_k6, podd_k7, podd_k8, podd_k9, podd_k10, podd_k11, podd_k12, podd_k13, podd_k14, podd_k15, g21, g20, g4, c4, g7, g5, g6, b3, b5, b8, b11]
  refine ⟨st, .sl 1000027005 s5 2 0 1, .sl 1000027008 s8 4 0 1, .sl 1000027011 s11 3 0 1, iv 10, by simp [g4], by simp [c4], by simp [g7, oddW], ?_⟩
  simp [oddP, dco, elemR, coL, co1, b3, b5, b8, b11]
theorem podd_sw9 (S : St) (h : OddI 9 S) : V Try.prog podd_k15 (fun e S' => e = .normal ∧ OddQ 9 S') S := by
  obtain ⟨st, s3, s5, s8, s11, a, b, g20, g21, g4, c4, g7, g5, g6, b3, b5, b8, b11⟩ := h
  simp [podd_k0, podd_k1, podd_k2, podd_k3, podd_k4, podd_k5, podd_k6, podd_k7, podd_k8, podd_k9, podd_k10, podd_k11, podd_k12, podd_k13, podd_k14, podd_k15, g21, g20, g4, c4, g7, g5, g6, b3, b5, b8, b11]
  refine ⟨st, .sl 1000027005 s5 2 0 1, .sl 1000027008 s8 4 0 1, .sl 1000027011 s11 3 0 1, iv 10, by simp [g4], by simp [c4], by simp [g7, oddW], ?_⟩
  simp [oddP, dco, elemR, coL, co1, b3, b5, b8, b11]
theorem podd_sw10 (S : St) (h : OddI 10 S) : V Try.prog podd_k15 (fun e S' => e = .normal ∧ OddQ 10 S') S := by
  obtain ⟨st, s3, s5, s8, s11, a, b, g20, g21, g4, c4, g7, g5, g6, b3, b5, b8, b11⟩ := h
  simp [podd_k0, podd_k1, podd_k2, podd_k3, podd_k4, podd_k5, podd_k6, podd_k7, podd_k8, podd_k9, podd_k10, podd_k11, podd_k12, podd_k13, podd_k14, podd_k15, g21, g20, g4, c4, g7, g5, g6, b3, b5, b8, b11]
  refine ⟨st, .sl 1000027005 s5 2 0 1, .sl 1000027008 s8 4 0 1, .sl 1000027011 s11 3 0 1, iv 10, by simp [g4], by simp [c4], by simp [g7, oddW], ?_⟩
  simp [oddP, dco, elemR, coL, co1, b3, b5, b8, b11]
theorem podd_sw11 (S : St) (h : OddI 11 S) : V Try.prog podd_k15 (fun e S' => e = .normal ∧ OddQ 11 S') S := by
  obtain ⟨st, s3, s5, s8, s11, a, b, g20, g21, g4, c4, g7, g5, g6, b3, b5, b8, b11⟩ := h
  simp [podd_k0, podd_k1, podd_k2, podd_k3, podd_k4, podd_k5, podd_k6, podd_k7, podd_k8, podd_k9, podd_k10, podd_k11, podd_k12, podd_k13, podd_k14, podd_k15, g21, g20, g4, c4, g7, g5, g6, b3, b5, b8, b11]
  refine ⟨st, .sl 1000027005 s5 2 0 1, .sl 1000027008 s8 4 0 1, .sl 1000027011 s11 3 0 1, iv 10, by simp [g4], by simp [c4], by simp [g7, oddW], ?_⟩
  simp [oddP, dco, elemR, coL, co1, b3, b5, b8, b11]
theorem podd_sw12 (S : St) (h : OddI 12 S) : V Try.prog podd_k15 (fun e S' => e = .normal ∧ OddQ 12 S') S := by
  obtain ⟨st, s3, s5, s8, s11, a, b, g20, g21, g4, c4, g7, g5, g6, b3, b5, b8, b11⟩ := h
  simp [podd_k0, podd_k1, podd_k2, podd_k3, podd_k4, podd_k5, podd_k6, podd_k7, podd_k8, podd_k9, podd_k10, podd_k11, podd_k12, podd_k13, podd_k14, podd_k15, g21, g20, g4, c4, g7, g5, g6, b3, b5, b8, b11]
  refine ⟨st, .sl 1000027005 s5 2 0 1, .sl 1000027008 s8 4 0 1, .sl 1000027011 s11 3 0 1, iv 10, by simp [g4], by simp [c4], by simp [g7, oddW], ?_⟩
  simp [oddP, dco, elemR, coL, co1, b3, b5, b8, b11]
theorem podd_sw13 (S : St) (h : OddI 13 S) : V Try.prog podd_k15 (fun e S' => e = .normal ∧ OddQ 13 S') S := by
  obtain ⟨st, s3, s5, s8, s11, a, b, g20, g21, g4, c4, g7, g5, g6, b3, b5, b8, b11⟩ := h
  simp [podd_k0, podd_k1, podd_k2, podd_k3, podd_k4, podd_k5, podd_k6, podd_k7, podd_k8, podd_k9, podd_k10, podd_k11, podd_k12, podd_k13, podd_k14, podd_k15, g21, g20, g4, c4, g7, g5, g6, b3, b5, b8, b11]
  refine ⟨st, .sl 1000027005 s5 2 0 1, .sl 1000027008 s8 4 0 1, .sl 1000027011 s11 3 0 1, iv 10, by simp [g4], by simp [c4], by simp [g7, oddW], ?_⟩
  simp [oddP, dco, elemR, coL, co1, b3, b5, b8, b11]
theorem podd_sw14 (S : St) (h : OddI 14 S) : V Try.prog podd_k15 (fun e S' => e = .normal ∧ OddQ 14 S') S := by
  obtain ⟨st, s3, s5, s8, s11, a, b, g20, g21, g4, c4, g7, g5, g6, b3, b5, b8, b11⟩ := h
  simp [podd_k0, podd_k1, podd_k2, podd_k3, podd_k4, podd_k5, podd_k6, podd_k7, podd_k8, podd_k9, podd_k10, podd_k11, podd_k12, podd_k13, podd_k14, podd_k15, g21, g20, g4, c4, g7, g5, g6, b3, b5, b8, b11]
  refine ⟨st, .sl 1000027005 s5 2 0 1, .sl 1000027008 s8 4 0 1, .sl 1000027011 s11 3 0 1, iv 10, by simp [g4], by simp [c4], by simp [g7, oddW], ?_⟩
  simp [oddP, dco, elemR, coL, co1, b3, b5, b8, b11]
theorem podd_sw15 (S : St) (h : OddI 15 S) : V Try.prog podd_k15 (fun e S' => e = .normal ∧ OddQ 15 S') S := by
  obtain ⟨st, s3, s5, s8, s11, a, b, g20, g21, g4, c4, g7, g5, g6, b3, b5, b8, b11⟩ := h
  simp [podd_k0, podd_k1, podd_k2, podd_k3, podd_k4, podd_k5, podd_k6, podd_k7, podd_k8, podd_k9, podd_k10, podd_k11, podd_k12, podd_k13, podd_k14, podd_k15, g21, g20, g4, c4, g7, g5, g6, b3, b5, b8, b11]
  refine ⟨st, .sl 1000027005 s5 2 0 1, .sl 1000027008 s8 4 0 1, .sl 1000027011 s11 3 0 1, iv 10, by simp [g4], by simp [c4], by simp [g7, oddW], ?_⟩
  simp [oddP, dco, elemR, coL, co1, b3, b5, b8, b11]
theorem podd_j (k : Int) (j : Nat) (hj : (k.tmod 16 + 16).tmod 16 = j) (hsw : ∀ S, OddI j S → V Try.prog podd_k15 (fun e S' => e = .normal ∧ OddQ j S') S) (hw : checkV (oddP j) = oddW j) : PC Try.prog 5 [iv k] (.bool true) := by
  refine pc_of_get podd_get (by simp) _ (by simp) _ ?_
  unfold podd_c
  simp
  refine call (rnd_pc k 16 (by omega)) (by simp) ?_
  rw [hj]
  simp
  refine oneM_v ?_
  intro S s3 s5 s8 s11 a b ht _ hb hk b3 b5 b8 b11
  simp [ht, b3, b5, b8, b11]
  refine V_cut3 (OddQ j) (hsw _ ⟨5, s3, s5, s8, s11, a, b, by simp, by simp [Int.natCast_eq_zero], by simp, by simp, by simp, by simp, by simp, by simp [b3], by simp [b5], by simp [b8], by simp [b11]⟩) ?_
  rintro S' ⟨st, w1, w2, w3, w4, g4, c4, g7, hco⟩
  simp [g4, c4]
  refine callW (check_pc (oddP j)) 2 ⟨hco, trivial⟩ rfl ?_
  rw [hw]
  simp [g7]
  refine call one_pc (by simp) ?_
  simp
  refine call (check_pc oneP) (by simp) ?_
  rw [show checkV oneP = 0 by decide]
  simp
  refine call awake_pc (by simp) ?_
  simp
theorem progOdd_pc (k : Int) : PC Try.prog 5 [iv k] (.bool true) := by
  obtain ⟨j, hj1, hj⟩ := rnd_cases k 16 (by omega)
  rcases (show j = 0 ∨ j = 1 ∨ j = 2 ∨ j = 3 ∨ j = 4 ∨ j = 5 ∨ j = 6 ∨ j = 7 ∨ j = 8 ∨ j = 9 ∨ j = 10 ∨ j = 11 ∨ j = 12 ∨ j = 13 ∨ j = 14 ∨ j = 15 by omega) with rfl | rfl | rfl | rfl | rfl | rfl | rfl | rfl | rfl | rfl | rfl | rfl | rfl | rfl | rfl | rfl
  · exact podd_j k 0 hj podd_sw0 (by decide)
  · exact podd_j k 1 hj podd_sw1 (by decide)
  · exact podd_j k 2 hj podd_sw2 (by decide)
  · exact podd_j k 3 hj podd_sw3 (by decide)
  · exact podd_j k 4 hj podd_sw4 (by decide)
  · exact podd_j k 5 hj podd_sw5 (by decide)
  · exact podd_j k 6 hj podd_sw6 (by decide)
  · exact podd_j k 7 hj podd_sw7 (by decide)
  · exact podd_j k 8 hj podd_sw8 (by decide)
  · exact podd_j k 9 hj podd_sw9 (by decide)
  · exact podd_j k 10 hj podd_sw10 (by decide)
  · exact podd_j k 11 hj podd_sw11 (by decide)
  · exact podd_j k 12 hj podd_sw12 (by decide)
  · exact podd_j k 13 hj podd_sw13 (by decide)
  · exact podd_j k 14 hj podd_sw14 (by decide)
  · exact podd_j k 15 hj podd_sw15 (by decide)

end Go.Gv
