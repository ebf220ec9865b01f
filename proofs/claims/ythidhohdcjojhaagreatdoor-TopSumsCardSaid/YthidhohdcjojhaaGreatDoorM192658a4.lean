/- Texts of this proof, one behind the other. What is proved, and on which conditions, stands ahead of each. -/
import Derived.Test.YthidhohdcjojhaaGreatDoorProg
import Derived.Test.YthidhohdcjojhaaGreatDoorM18da55f3
import Derived.Test.YthidhohdcjojhaaGreatDoorM1661a20e
import Derived.Test.YthidhohdcjojhaaGreatDoorM170220fe

set_option linter.unusedVariables false
set_option linter.unusedSimpArgs false
namespace Go.Gv
open Go.Proofs
theorem wrap_u64 (n : Int) : IntKind.u64.wrap n = n % 18446744073709551616 := by simp [IntKind.wrap, IntKind.bits, IntKind.signed]
theorem wrap_u8 (n : Int) : IntKind.u8.wrap n = n % 256 := by simp [IntKind.wrap, IntKind.bits, IntKind.signed]
theorem ofInt_nat (w n : Nat) : BitVec.ofInt w (n : Int) = BitVec.ofNat w n := by simp
theorem or_u64 (a b : Nat) (ha : a < 18446744073709551616) (hb : b < 18446744073709551616) : bitOr .u64 a b = ((a ||| b : Nat) : Int) := by
 unfold bitOr
 have h : (BitVec.ofInt IntKind.u64.bits (a : Int) ||| BitVec.ofInt IntKind.u64.bits (b : Int)).toNat = a ||| b := by
   show (BitVec.ofInt 64 (a : Int) ||| BitVec.ofInt 64 (b : Int)).toNat = _
   rw [ofInt_nat, ofInt_nat, BitVec.toNat_or, BitVec.toNat_ofNat, BitVec.toNat_ofNat, Nat.mod_eq_of_lt ha, Nat.mod_eq_of_lt hb]
 rw [h, wrap_u64]
 have : a ||| b < 2 ^ 64 := Nat.or_lt_two_pow ha hb
 omega
theorem or_u8 (a : Nat) : bitOr .u8 (IntKind.u8.wrap a) 128 = ((a % 128 + 128 : Nat) : Int) := by
 have h : ∀ x : Fin 256, bitOr .u8 ((x.val : Nat) : Int) 128 = ((x.val % 128 + 128 : Nat) : Int) := by decide +kernel
 have h2 := h ⟨a % 256, Nat.mod_lt _ (by omega)⟩
 rw [wrap_u8]
 simp only at h2
 have e : ((a : Int) % 256) = ((a % 256 : Nat) : Int) := by omega
 rw [e, h2]
 congr 2
 omega
theorem andNot_u64 (c : Nat) (h : c < 256) : bitAndNot .u64 (IntKind.u64.wrap c) 128 = ((c % 128 : Nat) : Int) := by
 have h : ∀ x : Fin 256, bitAndNot .u64 (IntKind.u64.wrap ((x.val : Nat) : Int)) 128 = ((x.val % 128 : Nat) : Int) := by decide +kernel
 exact h ⟨c, by omega⟩
def zz (n : Int) : Nat := if 0 <= n then (2 * n).toNat else (-2 * n - 1).toNat
theorem zz_lt (n : Int) (h1 : -9223372036854775808 <= n) (h2 : n <= 9223372036854775807) : zz n < 18446744073709551616 := by
 unfold zz; split <;> omega
theorem xor0 (a : Nat) (h : a < 18446744073709551616) : bitXor .u64 a 0 = a := by
 unfold bitXor
 have : (BitVec.ofInt IntKind.u64.bits (a : Int) ^^^ BitVec.ofInt IntKind.u64.bits 0).toNat = a := by
   show (BitVec.ofInt 64 (a : Int) ^^^ BitVec.ofInt 64 0).toNat = _
   have : BitVec.ofInt 64 0 = 0#64 := by decide
   rw [ofInt_nat, this, BitVec.xor_zero, BitVec.toNat_ofNat, Nat.mod_eq_of_lt h]
 rw [this, wrap_u64]; omega
theorem xor1 (a : Nat) (h : a < 18446744073709551616) : bitXor .u64 a 18446744073709551615 = ((18446744073709551615 - a : Nat) : Int) := by
 unfold bitXor
 have : (BitVec.ofInt IntKind.u64.bits (a : Int) ^^^ BitVec.ofInt IntKind.u64.bits 18446744073709551615).toNat = 18446744073709551615 - a := by
   show (BitVec.ofInt 64 (a : Int) ^^^ BitVec.ofInt 64 18446744073709551615).toNat = _
   have : BitVec.ofInt 64 18446744073709551615 = BitVec.allOnes 64 := by decide
   rw [ofInt_nat, this, BitVec.xor_allOnes, BitVec.toNat_not, BitVec.toNat_ofNat, Nat.mod_eq_of_lt h]
 rw [this, wrap_u64]; omega
theorem enc_zz (n : Int) (h1 : -9223372036854775808 <= n) (h2 : n <= 9223372036854775807) :
   bitXor .u64 (shiftI true .u64 (IntKind.u64.wrap n) 1) (IntKind.u64.wrap (shiftI false .i64 n 63)) = (zz n : Int) := by
 have e1 : shiftI true .u64 (IntKind.u64.wrap n) 1 = (2 * n) % 18446744073709551616 := by
   simp [shiftI, wrap_u64, IntKind.bits]; omega
 have e2 : shiftI false .i64 n 63 = if 0 <= n then 0 else -1 := by
   simp [shiftI, IntKind.bits]
   rw [Int.fdiv_eq_ediv_of_nonneg _ (by decide)]
   split <;> omega
 rw [e1, e2]
 by_cases h : 0 <= n
 . rw [if_pos h]
   have : (2 * n) % 18446744073709551616 = ((2 * n).toNat : Int) := by omega
   rw [this, show IntKind.u64.wrap 0 = 0 by decide, xor0 _ (by omega)]
   simp [zz, h]
 . rw [if_neg h]
   have : (2 * n) % 18446744073709551616 = ((2 * n + 18446744073709551616).toNat : Int) := by omega
   rw [this, show IntKind.u64.wrap (-1) = 18446744073709551615 by decide, xor1 _ (by omega)]
   simp only [zz, h, if_false]
   omega
theorem xor_m1 (a : Int) (h1 : -9223372036854775808 <= a) (h2 : a <= 9223372036854775807) : bitXor .i64 a (-1) = -a - 1 := by
 unfold bitXor
 have e : BitVec.ofInt 64 (-1) = BitVec.allOnes 64 := by decide
 have : (BitVec.ofInt IntKind.i64.bits a ^^^ BitVec.ofInt IntKind.i64.bits (-1)).toNat = 18446744073709551615 - (a % 18446744073709551616).toNat := by
   show (BitVec.ofInt 64 a ^^^ BitVec.ofInt 64 (-1)).toNat = _
   rw [e, BitVec.xor_allOnes, BitVec.toNat_not, BitVec.toNat_ofInt]
   simp
 rw [this]
 simp only [IntKind.wrap, IntKind.bits, IntKind.signed]
 simp
 split <;> omega
theorem xor_0 (a : Int) (h1 : -9223372036854775808 <= a) (h2 : a <= 9223372036854775807) : bitXor .i64 a 0 = a := by
 unfold bitXor
 have e : BitVec.ofInt 64 0 = 0#64 := by decide
 have : (BitVec.ofInt IntKind.i64.bits a ^^^ BitVec.ofInt IntKind.i64.bits 0).toNat = (a % 18446744073709551616).toNat := by
   show (BitVec.ofInt 64 a ^^^ BitVec.ofInt 64 0).toNat = _
   rw [e, BitVec.xor_zero, BitVec.toNat_ofInt]
   simp
 rw [this]
 simp only [IntKind.wrap, IntKind.bits, IntKind.signed]
 simp
 split <;> omega
theorem and1 (u : Nat) (h : u < 18446744073709551616) : bitAnd .u64 u 1 = ((u % 2 : Nat) : Int) := by
 unfold bitAnd
 have : (BitVec.ofInt IntKind.u64.bits (u : Int) &&& BitVec.ofInt IntKind.u64.bits 1).toNat = u % 2 := by
   have e : BitVec.ofInt 64 1 = 1#64 := by decide
   show (BitVec.ofInt 64 (u : Int) &&& BitVec.ofInt 64 1).toNat = _
   rw [e, ofInt_nat, BitVec.toNat_and, BitVec.toNat_ofNat, Nat.mod_eq_of_lt h]
   show u &&& 1 = _
   rw [Nat.and_one_is_mod]
 rw [this, wrap_u64]; omega
theorem dec_zz (n : Int) (h1 : -9223372036854775808 <= n) (h2 : n <= 9223372036854775807) :
   bitXor .i64 (IntKind.i64.wrap (shiftI false .u64 (zz n : Int) 1)) (IntKind.i64.wrap (0 - IntKind.i64.wrap (bitAnd .u64 (zz n : Int) 1))) = n := by
 have hz := zz_lt n h1 h2
 have e1 : shiftI false .u64 (zz n : Int) 1 = ((zz n / 2 : Nat) : Int) := by
   simp [shiftI, IntKind.bits]
   rw [Int.fdiv_eq_ediv_of_nonneg _ (by decide)]
 rw [e1, and1 _ hz, wrap_in _ (by omega) (by omega), wrap_in ((zz n % 2 : Nat) : Int) (by omega) (by omega)]
 by_cases h : 0 <= n
 . have hz1 : zz n = (2 * n).toNat := by simp [zz, h]
   rw [show 0 - ((zz n % 2 : Nat) : Int) = 0 by omega, show IntKind.i64.wrap 0 = 0 by decide, xor_0 _ (by omega) (by omega)]
   omega
 . have hz1 : zz n = (-2 * n - 1).toNat := by simp [zz, h]
   rw [show 0 - ((zz n % 2 : Nat) : Int) = -1 by omega, show IntKind.i64.wrap (-1) = -1 by decide, xor_m1 _ (by omega) (by omega)]
   omega
def nb (u : Nat) : List Nat := if u < 128 then [u] else (u % 128 + 128) :: nb (u / 128)
decreasing_by omega
theorem nb_small {u : Nat} (h : u < 128) : nb u = [u] := by rw [nb, if_pos h]
theorem nb_big {u : Nat} (h : ¬ u < 128) : nb u = (u % 128 + 128) :: nb (u / 128) := by rw [nb, if_neg h]
theorem nb_len (k : Nat) : ∀ u, u < 128 ^ k -> (nb u).length <= max k 1 := by
 induction k with
 | zero => intro u h; simp at h; subst h; rw [nb_small (by omega)]; simp
 | succ k ih =>
   intro u h
   by_cases h1 : u < 128
   . rw [nb_small h1]; simp
   . rw [nb_big h1]
     have h3 : u < 128 ^ k * 128 := by rw [<- Nat.pow_succ]; exact h
     have := ih (u / 128) (Nat.div_lt_of_lt_mul (by omega))
     have hk : 1 <= k := by
       rcases k with _ | k
       . simp at h; omega
       . omega
     simp only [List.length_cons]
     omega
theorem nb_len10 {u : Nat} (h : u < 18446744073709551616) : (nb u).length <= 10 := by
 have := nb_len 10 u (Nat.lt_trans h (by decide))
 omega
theorem nb_pos (u : Nat) : 1 <= (nb u).length := by
 by_cases h : u < 128
 . rw [nb_small h]; simp
 . rw [nb_big h]; simp
theorem nb_at (u : Nat) : ∀ i, i < (nb u).length -> ((nb u)[i]? = some (if u / 128 ^ i < 128 then u / 128 ^ i else u / 128 ^ i % 128 + 128)) /\ (i + 1 = (nb u).length ↔ u / 128 ^ i < 128) /\ (0 < i -> u / 128 ^ i ≠ 0) := by
 induction u using Nat.strongRecOn with
 | ind u ih =>
   intro i hi
   by_cases h : u < 128
   . rw [nb_small h] at hi ⊢
     simp at hi
     subst hi
     simp [h]
   . rw [nb_big h] at hi ⊢
     rcases i with _ | i
     . have hp := nb_pos (u / 128)
       simp [h]
       intro h0; rw [h0] at hp; simp at hp
     . simp only [List.length_cons] at hi
       obtain ⟨a, b, c⟩ := ih (u / 128) (by omega) i (by omega)
       have e : u / 128 / 128 ^ i = u / 128 ^ (i + 1) := by rw [Nat.div_div_eq_div_mul, Nat.pow_succ, Nat.mul_comm]
       rw [e] at a b c
       simp only [List.length_cons, List.getElem?_cons_succ]
       refine ⟨a, by omega, fun _ => ?_⟩
       rcases i with _ | i
       . simp; omega
       . exact c (by omega)
theorem take_or (u i : Nat) : u % 2 ^ (7 * i) ||| (u / 128 ^ i % 128) * 2 ^ (7 * i) = u % 2 ^ (7 * (i + 1)) := by
 have e : (128 : Nat) ^ i = 2 ^ (7 * i) := by rw [show (128 : Nat) = 2 ^ 7 by decide, <- Nat.pow_mul]
 rw [e, Nat.or_comm, Nat.mul_comm, <- Nat.two_pow_add_eq_or_of_lt (Nat.mod_lt _ (Nat.two_pow_pos _)), show 7 * (i + 1) = 7 * i + 7 by omega, Nat.pow_add]
 rw [Nat.mod_mul, show (2 : Nat) ^ 7 = 128 by decide]
 omega
theorem wtake_at (n : Int) (h1 : -9223372036854775808 <= n) (h2 : n <= 9223372036854775807) (i : Nat) (hi : i < (nb (zz n)).length) : ∃ c : Nat, (nb (zz n))[i]? = some c /\ i <= 9 /\ c < 256 /\ (c = 0 -> i = 0) /\ (i = 9 -> c % 128 < 2) /\
   (c < 128 ↔ i + 1 = (nb (zz n)).length) /\ (c % 128) * 2 ^ (7 * i) < 18446744073709551616 /\ zz n % 2 ^ (7 * i) ||| (c % 128) * 2 ^ (7 * i) = zz n % 2 ^ (7 * (i + 1)) /\ (i + 1 = (nb (zz n)).length -> zz n % 2 ^ (7 * (i + 1)) = zz n) := by
 have hz := zz_lt n h1 h2
 have h10 := nb_len10 hz
 obtain ⟨e1, e2, e3⟩ := nb_at (zz n) i hi
 generalize zz n = z at *
 have e : (128 : Nat) ^ i = 2 ^ (7 * i) := by rw [show (128 : Nat) = 2 ^ 7 by decide, <- Nat.pow_mul]
 have hmod : (if z / 128 ^ i < 128 then z / 128 ^ i else z / 128 ^ i % 128 + 128) % 128 = z / 128 ^ i % 128 := by split <;> omega
 have hle : z / 128 ^ i * 2 ^ (7 * i) <= z := by rw [e]; exact Nat.div_mul_le_self _ _
 refine ⟨_, e1, by omega, by split <;> omega, fun q => ?_, fun q => ?_, ?_, ?_, ?_, fun q => ?_⟩
 . by_cases hi0 : i = 0
   . exact hi0
   . have := e3 (by omega)
     split at q <;> omega
 . rw [hmod]
   subst q
   have : z / 128 ^ 9 < 2 := Nat.div_lt_of_lt_mul (Nat.lt_of_lt_of_le hz (by decide))
   omega
 . rw [e2]
   split <;> omega
 . rw [hmod]
   have : z / 128 ^ i % 128 * 2 ^ (7 * i) <= z / 128 ^ i * 2 ^ (7 * i) := Nat.mul_le_mul_right _ (Nat.mod_le _ _)
   omega
 . rw [hmod, take_or]
 . have h3 := e2.1 q
   refine Nat.mod_eq_of_lt ?_
   rw [show 7 * (i + 1) = 7 * i + 7 by omega, Nat.pow_add, <- e, Nat.mul_comm]
   have h4 : z < (z / 128 ^ i + 1) * 128 ^ i := by
     have := Nat.lt_div_mul_add (a := z) (Nat.pow_pos (show 0 < 128 by decide) (n := i))
     rw [Nat.add_mul]; omega
   exact Nat.lt_of_lt_of_le h4 (Nat.mul_le_mul_right _ h3)
def I64 (n : Int) : Prop := -9223372036854775808 <= n /\ n <= 9223372036854775807
theorem zz_I64 {n : Int} (h : I64 n) : zz n < 18446744073709551616 := zz_lt n h.1 h.2
def encN (ns : List Int) : List Nat := ns.flatMap fun n => nb (zz n)
def u8A (l : List Nat) : List AV := l.map fun c : Nat => .int .u8 (c : Int)
theorem u8A_snoc (l : List Nat) (c : Nat) : u8A (l ++ [c]) = u8A l ++ [.int .u8 (c : Int)] := by simp [u8A]
@[simp] theorem u8A_len (l : List Nat) : (u8A l).length = l.length := by simp [u8A]
def encA (ns : List Int) : List AV := u8A (encN ns)
@[simp] theorem encA_nil : encA [] = [] := rfl
theorem encA_append (a b : List Int) : encA (a ++ b) = encA a ++ encA b := by simp [encA, encN, u8A]
theorem encA_cons (n : Int) (b : List Int) : encA (n :: b) = encA [n] ++ encA b := encA_append [n] b
theorem encA_one (n : Int) : (encA [n]).length = (nb (zz n)).length := by simp [encA, encN, u8A]
theorem encA_le : ∀ (ns : List Int), (∀ n ∈ ns, I64 n) -> (encA ns).length <= 10 * ns.length
 | [], _ => by simp
 | n :: ns, h => by
   have h1 := encA_le ns (fun m hm => h m (by simp [hm]))
   have h2 := nb_len10 (zz_I64 (h n (by simp)))
   rw [encA_cons, List.length_append, encA_one, List.length_cons]
   omega
theorem encA_ge : ∀ (ns : List Int), ns.length <= (encA ns).length
 | [] => by simp
 | n :: ns => by
   have h1 := encA_ge ns
   have h2 := nb_pos (zz n)
   rw [encA_cons, List.length_append, encA_one, List.length_cons]
   omega
theorem encA_drop (n : Int) (ns : List Int) : (encA (n :: ns)).drop (nb (zz n)).length = encA ns := by
 rw [encA_cons, <- encA_one, List.drop_left]
theorem encA_get (n : Int) (ns : List Int) (i : Nat) (h : i < (nb (zz n)).length) : ∃ c : Nat, (nb (zz n))[i]? = some c /\ (encA (n :: ns))[i]? = some (.int .u8 (c : Int)) := by
 refine ⟨(nb (zz n))[i], List.getElem?_eq_getElem h, ?_⟩
 rw [encA_cons, List.getElem?_append_left (by rw [encA_one]; exact h)]
 simp [encA, encN, u8A, h]
end Go.Gv

namespace Go.Gv
open Go.Proofs
def cloneI_c : AC := (.seq (.reg [oA 2 (.mv (.c .nils))]) (.seq (.seq (.reg [oM 3 0, ⟨(some 4), none, (.nq 0 false (.t 3))⟩]) (.cond (.t 4) (.seq (.reg [oA 2 (.mv (.c .nils))]) .ret) .skip)) (.seq (.reg [oA 5 (.bsl 63005 1 3 0 (.int .i64 0) []), oM 6 0, oA 7 (.app 63007 1 3 8 (.t 5) (.t 6)), oM 2 7]) .ret)))
set_option maxRecDepth 100000 in
theorem cloneI_get : getF Tryz.prog 91 63000 [] = some ("slices.Clone[[]int,int]", 8, cloneI_c, [(.tmp 2)]) := by kernel_rfl
def copyNote_c : AC := (.seq (.reg [oA 1 (.box 51001 3 (.t 0)), oA 2 (.new 51002 3 (.agg [(.int .i64 0), (.int .i64 0), .nils]))]) (.seq (.reg [oF 3 2 1, oL 4 3, oC 5 (.c (.fn 91 [])) [(.t 4)], oF 6 2 1, oN (.store 1 (.t 6) (.t 5))]) (.seq (.reg [oA 7 (.load (some 3) (.t 1)), oN (.store 3 (.t 2) (.t 7))]) .ret)))
set_option maxRecDepth 100000 in
theorem copyNote_get : getF Tryz.prog 236 51000 [] = some ("gavotte/prog.CopyNote", 8, copyNote_c, [(.cell (some 3) 2)]) := by kernel_rfl
theorem cloneInts_pc (l : List Int) (h : l.length <= 1000) : PC Tryz.prog 91 [ints l] (ints l) := by
 refine pc_of_get cloneI_get (by simp) _ (by simp) _ ?_
 unfold cloneI_c
 cases l with
 | nil =>
   simp
   refine opG_none _ _ ?_ ?_ <;> simp
 | cons x l =>
   simp at h
   simp [ints]
   rw [if_pos (by omega)]
   simp
theorem copyNote_pc (n : Nt) (h : n.args.length <= 1000) : PC Tryz.prog 236 [n.av] n.av := by
 refine pc_of_get copyNote_get (by simp) _ (by simp) _ ?_
 unfold copyNote_c
 simp
 refine call (cloneInts_pc n.args h) (by simp) ?_
 simp
def AccIs (S : St) (v : AV) (nm sz : Nat) (ty : TypeId) (xs : List AV) : Prop := (v = .nils /\ xs = []) \/ ∃ st, v = .acc nm st sz xs /\ S.tok nm = some ⟨st, sz, ty⟩
theorem take_succ_map {α : Type} (f : α -> AV) (l : List α) (i : Nat) (h : i < l.length) : (l.map f).take (i + 1) = (l.map f).take i ++ [f l[i]] := by
 rw [List.take_succ_eq_append_getElem (by simpa using h), List.getElem_map]
theorem AccIs.out {S : St} {v : AV} {nm sz : Nat} {ty : TypeId} {xs : List AV} (h : AccIs S v nm sz ty xs) : v.one = true /\ v.cells = [v] /\ ∀ B, co1 B v (.lst sz xs) := by
 rcases h with ⟨rfl, rfl⟩ | ⟨st, rfl, _⟩ <;> simp
end Go.Gv

namespace Go.Gv
open Go.Proofs
def numb_l0 : AC := (.seq (.seq (.reg [oM 11 3, oA 12 (.ibin .geq (.t 11) (.c (.int .u64 128)))]) (.cond (.t 12) .skip (.exit 0))) (.seq (.block 1 (.reg [oM 15 2, oM 16 3, oA 17 (.conv .u8 (.t 16)), oA 18 (.ibin .or (.t 17) (.c (.int .u8 128))), oA 19 (.bsl 320019 1 5 1 (.int .u8 0) [(0, (.t 18))]), oA 20 (.app 320020 1 5 1 (.t 15) (.t 19)), oM 2 20])) (.reg [oM 13 3, oA 14 (.shift false (.t 13) (.c (.int .u64 7))), oM 3 14])))
def numb_c : AC := (.seq (.reg [oA 2 (.mv (.c .nils))]) (.seq (.reg [oM 4 0, oA 5 (.conv .u64 (.t 4)), oA 6 (.shift true (.t 5) (.c (.int .u64 1))), oM 7 0, oA 8 (.shift false (.t 7) (.c (.int .u64 63))), oA 9 (.conv .u64 (.t 8)), oB 10 .xor 6 9, oM 3 10]) (.seq (.block 0 (.loop numb_l0)) (.seq (.reg [oM 21 2, oM 22 3, oA 23 (.conv .u8 (.t 22)), oA 24 (.bsl 320024 1 5 1 (.int .u8 0) [(0, (.t 23))]), oA 25 (.app 320020 1 5 1 (.t 21) (.t 24)), oM 2 25]) .ret))))
set_option maxRecDepth 100000 in
theorem numb_get : getF Tryz.prog 64 320000 [(25, 20)] = some ("gavotte/wire.Number", 26, numb_c, [(.tmp 2)]) := by kernel_rfl
def take_l0 : AC := (.seq (.reg [oB 13 .lss 12 11]) (.seq (.cond (.t 13) .skip (.exit 0)) (.seq (.block 1 (.seq (.reg [oM 14 12, oA 15 (.idx 1 (.t 10) (.t 12)), oL 16 15, oM 6 14, oM 7 16]) (.seq (.reg [oM 17 7, oA 18 (.conv .u64 (.t 17)), oA 19 (.ibin .andNot (.t 18) (.c (.int .u64 128))), oM 8 19]) (.seq (.seq (.reg [oM 20 6, oA 21 (.ibin .mul (.c (.int .i64 7)) (.t 20)), oM 9 21]) (.block 2 (.seq (.seq (.reg [oM 28 9, oZ 29 .geq 28 64, oM 27 29]) (.cond (.t 27) .skip (.seq (.reg [oM 30 9, oZ 31 .add 30 7, oZ 32 .gtr 31 64, oM 33 32, gM 34 33 true 8, gM 35 33 true 9, oG 36 33 true (.ibin .sub (.c (.int .i64 64)) (.t 35)), oG 37 33 true (.shift false (.t 34) (.t 36)), oG 38 33 true (.ibin .neq (.t 37) (.c (.int .u64 0))), oA 39 (.pick (.t 33) (.t 38) (.c (.bool false))), oM 27 39]) (.cond (.t 27) .skip (.reg [oM 40 7, oA 41 (.ibin .eql (.t 40) (.c (.int .u8 0))), oM 42 41, gM 43 42 true 6, oG 44 42 true (.ibin .gtr (.t 43) (.c (.int .i64 0))), oA 45 (.pick (.t 42) (.t 44) (.c (.bool false))), oM 27 45]))))) (.cond (.t 27) (.seq (.reg [oI 2 0, oI 3 0, oI 4 2]) .ret) (.reg [oM 22 5, oM 23 8, oM 24 9, oA 25 (.shift true (.t 23) (.t 24)), oB 26 .or 22 25, oM 5 26]))))) (.seq (.reg [oM 46 7, oA 47 (.ibin .lss (.t 46) (.c (.int .u8 128)))]) (.cond (.t 47) (.seq (.reg [oM 48 5, oA 49 (.shift false (.t 48) (.c (.int .u64 1))), oA 50 (.conv .i64 (.t 49)), oM 51 5, oA 52 (.ibin .and (.t 51) (.c (.int .u64 1))), oA 53 (.conv .i64 (.t 52)), oA 54 (.neg (.t 53)), oB 55 .xor 50 54, oM 56 6, oZ 57 .add 56 1, oM 2 55, oM 3 57, oI 4 0]) .ret) .skip)))))) (.reg [oZ 58 .add 12 1, oM 12 58]))))
def take_c : AC := (.seq (.reg [oI 2 0, oI 3 0, oI 4 0]) (.seq (.reg [oA 5 (.mv (.c (.int .u64 0)))]) (.seq (.seq (.reg [oM 10 0, oK 11 10, oI 12 0]) (.block 0 (.loop take_l0))) (.seq (.reg [oI 2 0, oI 3 0, oI 4 2]) .ret))))
set_option maxRecDepth 100000 in
theorem take_get : getF Tryz.prog 67 321000 [] = some ("gavotte/wire.Take", 59, take_c, [(.tmp 2), (.tmp 3), (.tmp 4)]) := by kernel_rfl
def wput_l0 : AC := (.seq (.reg [oB 10 .lss 9 8]) (.seq (.cond (.t 10) .skip (.exit 0)) (.seq (.block 1 (.seq (.reg [oA 11 (.idx 1 (.t 7) (.t 9)), oL 12 11, oM 6 12]) (.reg [oM 13 0, oM 14 6, oC 15 (.c (.fn 64 [])) [(.t 14)], oA 16 (.app 322016 1 5 1 (.t 13) (.t 15)), oM 0 16]))) (.reg [oZ 17 .add 9 1, oM 9 17]))))
def wput_c : AC := (.seq (.reg [oA 4 (.mv (.c .nils))]) (.seq (.seq (.reg [oM 7 1, oK 8 7, oI 9 0]) (.block 0 (.loop wput_l0))) (.seq (.reg [oM 18 0, oM 4 18]) .ret)))
set_option maxRecDepth 100000 in
theorem wput_get : getF Tryz.prog 32 322000 [] = some ("gavotte/wire.put", 19, wput_c, [(.tmp 4)]) := by kernel_rfl
def wputn_c : AC := (.seq (.reg [oA 4 (.mv (.c .nils))]) (.seq (.reg [oM 5 0, oM 6 1, oK 7 6, oA 8 (.bsl 332008 1 3 1 (.int .i64 0) [(0, (.t 7))]), oC 9 (.c (.fn 32 [])) [(.t 5), (.t 8)], oM 10 1, oC 11 (.c (.fn 32 [])) [(.t 9), (.t 10)], oM 4 11]) .ret))
set_option maxRecDepth 100000 in
theorem wputn_get : getF Tryz.prog 65 332000 [] = some ("gavotte/wire.putNumbers", 12, wputn_c, [(.tmp 4)]) := by kernel_rfl
def wputc_l0 : AC := (.seq (.reg [oB 15 .lss 14 13]) (.seq (.cond (.t 15) .skip (.exit 0)) (.seq (.block 1 (.seq (.reg [oA 16 (.idx 2 (.t 12) (.t 14)), oA 17 (.load (some 2) (.t 16)), oA 6 (.new 334006 2 (.agg [(.int .i64 0), (.int .i64 0)])), oN (.store 2 (.t 6) (.t 17))]) (.reg [oM 18 0, oF 19 0 6, oL 20 19, oF 21 1 6, oL 22 21, oA 23 (.bsl 334023 1 3 2 (.int .i64 0) [(0, (.t 20)), (1, (.t 22))]), oC 24 (.c (.fn 32 [])) [(.t 18), (.t 23)], oM 0 24]))) (.reg [oZ 25 .add 14 1, oM 14 25]))))
def wputc_c : AC := (.seq (.reg [oA 4 (.mv (.c .nils))]) (.seq (.reg [oM 7 0, oM 8 1, oK 9 8, oA 10 (.bsl 334010 1 3 1 (.int .i64 0) [(0, (.t 9))]), oC 11 (.c (.fn 32 [])) [(.t 7), (.t 10)], oM 0 11]) (.seq (.seq (.reg [oM 12 1, oK 13 12, oI 14 0]) (.block 0 (.loop wputc_l0))) (.seq (.reg [oM 26 0, oM 4 26]) .ret))))
set_option maxRecDepth 100000 in
theorem wputc_get : getF Tryz.prog 34 334000 [] = some ("gavotte/wire.putCode", 27, wputc_c, [(.tmp 4)]) := by kernel_rfl
def wflag_c : AC := (.seq (.reg [oI 2 0]) (.seq (.seq (.reg [oM 3 0]) (.cond (.t 3) (.seq (.reg [oI 2 1]) .ret) .skip)) (.seq (.reg [oI 2 0]) .ret)))
set_option maxRecDepth 100000 in
theorem wflag_get : getF Tryz.prog 66 333000 [] = some ("gavotte/wire.flag", 4, wflag_c, [(.tmp 2)]) := by kernel_rfl
theorem wnumb_pc (n : Int) (h : I64 n) : PC Tryz.prog 64 [iv n] (.lst 1 (encA [n])) := by
 have he := enc_zz n h.1 h.2
 have hz := zz_I64 h
 have hl10 := nb_len10 hz
 have e1 : encA [n] = u8A (nb (zz n)) := by simp [encA, encN]
 refine pc_of_get numb_get (by simp) _ (by simp) _ ?_
 unfold numb_c
 simp [he]
 rw [e1]
 generalize zz n = z at *
 refine loopM (fun m S => S.t 3 = .int .u64 (m : Int) /\ ∃ out, AccIs S (S.t 2) 320020 1 5 (u8A out) /\ out ++ nb m = nb z) z ⟨rfl, [], .inl ⟨rfl, rfl⟩, rfl⟩ ?_
 rintro m S ⟨g3, out, ho, hm⟩
 have hlen : out.length + (nb m).length = (nb z).length := by rw [<- hm, List.length_append]
 have hp := nb_pos m
 by_cases hlt : m < 128
 . rw [nb_small hlt] at hm
   have w8 : IntKind.u8.wrap (m : Int) = m := by rw [wrap_u8]; omega
   have hge : ¬ (128 : Int) <= m := by omega
   rw [<- hm, u8A_snoc]
   rcases ho with ⟨q1, q2⟩ | ⟨st, q1, q2⟩
   . simp [numb_l0, g3, hge, q1, w8, q2]
   . simp [numb_l0, g3, hge, q1, q2, w8, show out.length <= 140737488355327 by omega]
 . have hor := or_u8 m
   have hge : (128 : Int) <= m := by omega
   have hsh : shiftI false .u64 (m : Int) 7 = ((m / 128 : Nat) : Int) := by
     simp [shiftI, IntKind.bits]
     rw [Int.fdiv_eq_ediv_of_nonneg _ (by decide)]
   rw [nb_big hlt] at hm
   have hd : m / 128 < m := by omega
   rcases ho with ⟨q1, q2⟩ | ⟨st, q1, q2⟩
   . simp [numb_l0, g3, hge, q1, hor, hsh]
     refine ⟨m / 128, hd, by omega, out ++ [m % 128 + 128], .inr ⟨_, by simp [u8A_snoc, q2]; rfl, by simp⟩, by simpa using hm⟩
   . simp [numb_l0, g3, hge, q1, q2, hor, hsh, show out.length <= 140737488355327 by omega]
     refine ⟨m / 128, hd, by omega, out ++ [m % 128 + 128], .inr ⟨_, by simp [u8A_snoc]; rfl, by simp⟩, by simpa using hm⟩
theorem wtake_pc (n : Int) (h : I64 n) (ns : List Int) (hl : (encA (n :: ns)).length <= 1000000) : PC Tryz.prog 67 [.lst 1 (encA (n :: ns))] (.tup [iv n, iv (nb (zz n)).length, iv 0]) := by
 have hlen : (nb (zz n)).length <= (encA (n :: ns)).length := by rw [encA_cons, List.length_append, encA_one]; omega
 have hp := nb_pos (zz n)
 have hd := dec_zz n h.1 h.2
 rw [Int.zero_sub] at hd
 refine pc_of_get take_get (by simp) _ (by simp) _ ?_
 unfold take_c
 simp
 refine loopN (fun i S => S.t 12 = iv i /\ S.t 10 = .lst 1 (encA (n :: ns)) /\ S.t 11 = iv (encA (n :: ns)).length /\ S.t 5 = .int .u64 ((zz n % 2 ^ (7 * i) : Nat) : Int) /\ i < (nb (zz n)).length) (nb (zz n)).length ⟨rfl, rfl, rfl, by simp [Nat.mod_one], hp⟩ ?_
 rintro i S hi ⟨g12, g10, g11, g5, hlt⟩
 obtain ⟨c', hc', hget⟩ := encA_get n ns i hlt
 obtain ⟨c, hc, i9, c256, c0, ci9, clt, cbd, cor, cend⟩ := wtake_at n h.1 h.2 i hlt
 obtain rfl : c = c' := by rw [hc] at hc'; exact Option.some.inj hc'
 have hil : i < (encA (n :: ns)).length := by omega
 have hgt : (encA (n :: ns))[i] = .int .u8 (c : Int) := by
   rw [List.getElem?_eq_getElem hil] at hget
   exact Option.some.inj hget
 have h10 := nb_len10 (zz_I64 h)
 have w7 : IntKind.i64.wrap (7 * (i : Int)) = 7 * i := wrap_in _ (by omega) (by omega)
 have w77 : IntKind.i64.wrap (7 * (i : Int) + 7) = 7 * i + 7 := wrap_in _ (by omega) (by omega)
 have wi : IntKind.i64.wrap ((i : Int) + 1) = i + 1 := wrap_in _ (by omega) (by omega)
 have w64 : IntKind.i64.wrap (64 - 7 * (i : Int)) = 64 - 7 * i := wrap_in _ (by omega) (by omega)
 have hAN := andNot_u64 c c256
 have n64 : ¬ (64 : Int) <= 7 * (i : Int) := by omega
 have nneg : ¬ (7 * (i : Int)) < 0 := by omega
 have hshl : shiftI true .u64 ((c % 128 : Nat) : Int) (7 * (i : Int)) = ((c % 128 * 2 ^ (7 * i) : Nat) : Int) := by
   have e : (min (7 * (i : Int)).toNat 64) = 7 * i := by omega
   simp only [shiftI, IntKind.bits, if_true, e, wrap_u64]
   have : ((c % 128 : Nat) : Int) * 2 ^ (7 * i) = ((c % 128 * 2 ^ (7 * i) : Nat) : Int) := by push_cast; rfl
   rw [this]
   omega
 have hor : bitOr .u64 ((zz n % 2 ^ (7 * i) : Nat) : Int) ((c % 128 * 2 ^ (7 * i) : Nat) : Int) = ((zz n % 2 ^ (7 * (i + 1)) : Nat) : Int) := by
   have hz := zz_I64 h
   rw [or_u64 _ _ (Nat.lt_of_le_of_lt (Nat.mod_le _ _) hz) cbd, cor]
 have hz := zz_I64 h
 have hxlt : c % 128 < 128 := Nat.mod_lt _ (by decide)
 have hu1 : zz n % 2 ^ (7 * (i + 1)) < 18446744073709551616 := Nat.lt_of_le_of_lt (Nat.mod_le _ _) hz
 generalize zz n % 2 ^ (7 * i) = u0 at *
 generalize zz n % 2 ^ (7 * (i + 1)) = u1 at *
 generalize c % 128 * 2 ^ (7 * i) = y at *
 generalize c % 128 = x at *
 have e8 : i <= 8 \/ i = 9 := by omega
 have ec : c = 0 \/ c ≠ 0 := by omega
 have el : c < 128 \/ ¬ c < 128 := by omega
 have hs1 : i = 9 -> shiftI false .u64 (x : Int) (64 - 7 * (i : Int)) = 0 := by
   intro q
   have := ci9 q
   subst q
   simp [shiftI, IntKind.bits]
   rw [Int.fdiv_eq_ediv_of_nonneg _ (by decide)]
   omega
 have hlast : c < 128 -> zz n = u1 /\ ((nb (zz n)).length : Int) = i + 1 := fun q => ⟨(cend (clt.1 q)).symm, by have := clt.1 q; omega⟩
 rcases e8 with e8 | e8
 . have a1 : ¬ (64 : Int) < 7 * (i : Int) + 7 := by omega
   rcases ec with ec | ec
   . have a2 : ¬ 0 < i := by have := c0 ec; omega
     have a3 : (c : Int) < 128 := by omega
     have hA0 : bitAndNot .u64 (IntKind.u64.wrap 0) 128 = (x : Int) := by rw [ec] at hAN; exact hAN
     obtain ⟨q1, q2⟩ := hlast (by omega)
     rw [q1] at hd
     simp [take_l0, g12, g10, g11, g5, hil, hgt, AV.cells, hAN, w7, w77, wi, w64, n64, hshl, hor, nneg, a1, a2, ec, a3, hA0]
     exact ⟨hd, q2.symm⟩
   . rcases el with el | el
     . have a3 : (c : Int) < 128 := by omega
       obtain ⟨q1, q2⟩ := hlast el
       rw [q1] at hd
       simp [take_l0, g12, g10, g11, g5, hil, hgt, AV.cells, hAN, w7, w77, wi, w64, n64, hshl, hor, nneg, a1, ec, a3]
       exact ⟨hd, q2.symm⟩
     . have a3 : ¬ (c : Int) < 128 := by omega
       simp [take_l0, g12, g10, g11, g5, hil, hgt, AV.cells, hAN, w7, w77, wi, w64, n64, hshl, hor, nneg, a1, ec, a3]
       omega
 . have a1 : (64 : Int) < 7 * (i : Int) + 7 := by omega
   have ec' : ¬ c = 0 := fun q => by have := c0 q; omega
   have hs := hs1 e8
   have el' : c < 128 := by
     rw [clt]; omega
   have a3 : (c : Int) < 128 := by omega
   obtain ⟨q1, q2⟩ := hlast el'
   rw [q1] at hd
   simp [take_l0, g12, g10, g11, g5, hil, hgt, AV.cells, hAN, w7, w77, wi, w64, n64, hshl, hor, nneg, a1, ec', a3, hs, show ¬ (64 - 7 * (i : Int) < 0) by omega]
   exact ⟨hd, q2.symm⟩
def AccB (S : St) (v : AV) (xs : List AV) : Prop := (v = .nils /\ xs = []) \/ ∃ nm st, nm < 330000 /\ v = .acc nm st 1 xs /\ S.tok nm = some ⟨st, 1, 5⟩
theorem AccB.rel {S : St} {v : AV} {xs : List AV} (h : AccB S v xs) : ∀ (E : Env) (u : Value), Rel E v u -> Rel E (.lst 1 xs) u := by
 rcases h with ⟨rfl, rfl⟩ | ⟨nm, st, _, rfl, _⟩
 . exact fun E u h => h.lst_of_nils
 . exact fun E u h => h.lst_of_acc
theorem AccB.one {S : St} {v : AV} {xs : List AV} (h : AccB S v xs) : v.one = true /\ v.cells = [v] := by
 rcases h with ⟨rfl, rfl⟩ | ⟨nm, st, _, rfl, _⟩ <;> exact ⟨rfl, rfl⟩
theorem AccB.at {S S' : St} {v : AV} {xs : List AV} (h : AccB S v xs) (ht : ∀ n, n < 330000 -> S'.tok n = S.tok n) : AccB S' v xs := by
 rcases h with h | ⟨nm, st, h1, h2, h3⟩
 . exact .inl h
 . exact .inr ⟨nm, st, h1, h2, by rw [ht nm h1]; exact h3⟩
def Ok64 (ns : List Int) : Prop := (∀ n ∈ ns, I64 n) /\ ns.length <= 60000
theorem Ok64.len {ns : List Int} (h : Ok64 ns) : (encA ns).length <= 600000 := by
 have := encA_le ns h.1
 have := h.2
 omega
theorem Ok64.tail {n : Int} {ns : List Int} (h : Ok64 (n :: ns)) : Ok64 ns := ⟨fun m hm => h.1 m (by simp [hm]), by have := h.2; simp at this; omega⟩
theorem Ok64.head {n : Int} {ns : List Int} (h : Ok64 (n :: ns)) : I64 n := h.1 n (by simp)
theorem Ok64.drop {a ns : List Int} (h : Ok64 (a ++ ns)) : Ok64 ns := ⟨fun m hm => h.1 m (by simp [hm]), by have := h.2; simp at this; omega⟩
theorem wput_v (l : List Int) (h : Ok64 l) (v : AV) (xs : List AV) (hx : xs.length <= 10000000) {S : St} {k : AV -> St -> Prop} {u : Dep k} (hv : AccB S v xs)
   (hk : ∀ S' v', AccB S' v' (xs ++ encA l) -> S'.t = S.t -> S'.blk = S.blk -> S.clk <= S'.clk -> k v' S') : CallG Tryz.prog (.fn 32 []) [v, ints l] S k u := by
 have hl := h.len
 refine callV wput_get (by simp) (by simp) ?_
 unfold wput_c
 simp [ints]
 refine loopN (fun i S' => S'.t 9 = iv i /\ S'.t 7 = .lst 1 (l.map iv) /\ S'.t 8 = iv l.length /\ S'.blk = S.blk /\ S.clk <= S'.clk /\ AccB S' (S'.t 0) (xs ++ encA (l.take i))) l.length ⟨rfl, rfl, by simp, rfl, by simp only []; omega, ?_⟩ ?_
 . simp
   exact hv.at fun _ _ => rfl
 . rintro i S' hi ⟨g9, g7, g8, gb, gc, ga⟩
   by_cases hlt : i < l.length
   . have hn := wnumb_pc l[i] (h.1 _ (List.getElem_mem hlt))
     have ws := wrap_succ i _ hlt (by have := h.2; omega)
     have e : xs ++ encA (l.take (i + 1)) = (xs ++ encA (l.take i)) ++ encA [l[i]] := by
       rw [List.take_succ_eq_append_getElem hlt, encA_append, List.append_assoc]
     have hb : (encA (l.take (i + 1))).length <= 600000 := by
       have h1 := encA_le (l.take (i + 1)) (fun n hn => h.1 n (List.mem_of_mem_take hn))
       have := h.2
       rw [List.length_take] at h1
       omega
     have hb2 : xs.length + (encA (l.take i)).length + (encA [l[i]]).length <= 140737488355328 := by
       have := congrArg List.length e
       simp only [List.length_append] at this
       omega
     simp [wput_l0, g9, g7, g8, hlt]
     refine call hn (by simp) ?_
     rw [e]
     rcases ga with ⟨q1, q2⟩ | ⟨nm, st, q0, q1, q2⟩
     . rw [q2]
       simp [q1, g9, g7, g8, ws, show (encA [l[i]]).length <= 140737488355328 by omega]
       exact ⟨gb, by omega, .inr ⟨_, _, by decide, rfl, by simp⟩⟩
     . simp [q1, q2, g9, g7, g8, ws, hb2, <- Nat.add_assoc]
       exact ⟨gb, by omega, .inr ⟨_, _, by decide, rfl, by simp⟩⟩
   . have e : l.take i = l := List.take_of_length_le (by omega)
     rw [e] at ga
     simp [wput_l0, g9, g7, g8, hlt]
     exact hk _ _ (ga.at fun _ _ => rfl) rfl gb (by simp only []; omega)
theorem wput_a (l : List Int) (h : Ok64 l) (a b : Nat) (v : AV) (xs : List AV) (hx : xs.length <= 10000000) {S : St} {k : AV -> St -> Prop} {u : Dep k} (hv : AccB S v xs)
   (hk : ∀ S' v', AccB S' v' (xs ++ encA l) -> S'.t = S.t -> S'.blk = S.blk -> S.clk <= S'.clk -> k v' S') : CallG Tryz.prog (.fn 32 []) [v, .acc a b 1 (l.map iv)] S k u := by
 refine call_coarse 0 (vals' := [v, ints l]) rfl (fun j x y hx hy => ?_) (wput_v l h v xs hx hv hk)
 match j, hx, hy with
 | 0, hx, hy => cases hx; cases hy; exact .inl rfl
 | 1, hx, hy => cases hx; cases hy; exact .inr (by simp [elemR, dco, ints])
 | j + 2, hx, _ => simp at hx
theorem wputn_v (l : List Int) (h : Ok64 ((l.length : Int) :: l)) (v : AV) (xs : List AV) (hx : xs.length <= 9000000) {S : St} {k : AV -> St -> Prop} {u : Dep k} (hv : AccB S v xs)
   (hk : ∀ S' v', AccB S' v' (xs ++ encA ((l.length : Int) :: l)) -> S'.t = S.t -> S'.blk = S.blk -> S.clk <= S'.clk -> k v' S') : CallG Tryz.prog (.fn 65 []) [v, ints l] S k u := by
 refine callV wputn_get (by simp) (by simp) ?_
 unfold wputn_c
 simp [ints]
 have hl := h.len
 have h1 : Ok64 [(l.length : Int)] := ⟨by simpa using h.head, by simp⟩
 have hl1 := h1.len
 refine wput_a [(l.length : Int)] h1 _ _ v xs (by omega) (hv.at fun n hn => by simp; intro; omega) (fun S1 v1 a1 a2 a3 a4 => ?_)
 simp [a2]
 refine wput_v l h.tail v1 _ (by simp; omega) (a1.at fun _ _ => rfl) (fun S2 v2 b1 b2 b3 b4 => ?_)
 simp [b2]
 refine hk _ _ ?_ rfl (by simp [b3, a3]) (by simp only [] at a4 b4 ⊢; omega)
 rw [encA_cons, <- List.append_assoc]
 exact b1.at fun _ _ => rfl
def codeN (l : List Ins) : List Int := (l.length : Int) :: l.flatMap fun i => [i.op, i.a]
theorem fm_len : ∀ l : List Ins, (l.flatMap fun i => [i.op, i.a]).length = 2 * l.length
 | [] => rfl
 | i :: l => by simp only [List.flatMap_cons, List.length_append, fm_len l, List.length_cons, List.length_nil]; omega
theorem codeN_len (l : List Ins) : (codeN l).length = 2 * l.length + 1 := by simp only [codeN, List.length_cons, fm_len]
theorem wputc_v (l : List Ins) (h : Ok64 (codeN l)) (v : AV) (xs : List AV) (hx : xs.length <= 9000000) {S : St} {k : AV -> St -> Prop} {u : Dep k} (hv : AccB S v xs)
   (hk : ∀ S' v', AccB S' v' (xs ++ encA (codeN l)) -> S'.t = S.t -> (∀ n, n ≠ 334006 -> S'.blk n = S.blk n) -> S.clk <= S'.clk -> k v' S') : CallG Tryz.prog (.fn 34 []) [v, .lst 2 (l.map Ins.av)] S k u := by
 refine callV wputc_get (by simp) (by simp) ?_
 unfold wputc_c
 simp
 have hl := h.len
 have h1 : Ok64 [(l.length : Int)] := ⟨by simpa using h.head, by simp⟩
 have hl1 := h1.len
 refine wput_a [(l.length : Int)] h1 _ _ v xs (by omega) (hv.at fun n hn => by simp; intro; omega) (fun S1 v1 a1 a2 a3 a4 => ?_)
 simp [a2]
 refine loopN (fun i S' => S'.t 14 = iv i /\ S'.t 12 = .lst 2 (l.map Ins.av) /\ S'.t 13 = iv l.length /\ (∀ n, n ≠ 334006 -> S'.blk n = S.blk n) /\ S.clk <= S'.clk /\ AccB S' (S'.t 0) (xs ++ encA ((l.length : Int) :: (l.take i).flatMap fun i => [i.op, i.a]))) l.length ⟨rfl, rfl, by simp, ?_, ?_, ?_⟩ ?_
 . intro n hn
   simp [a3]
 . simp only [] at a4 ⊢; omega
 . simp
   exact a1.at fun _ _ => rfl
 . rintro i S' hi ⟨g14, g12, g13, gb, gc, ga⟩
   by_cases hlt : i < l.length
   . have hlen := h.2
     rw [codeN_len] at hlen
     have ws := wrap_succ i _ hlt (by omega)
     have hi2 : Ok64 [l[i].op, l[i].a] := by
       have hm := List.getElem_mem hlt
       refine ⟨fun n hn => h.1 n ?_, by simp⟩
       simp [codeN]
       refine .inr ⟨l[i], hm, ?_⟩
       simpa using hn
     have e : xs ++ encA ((l.length : Int) :: (l.take (i + 1)).flatMap fun i => [i.op, i.a]) = (xs ++ encA ((l.length : Int) :: (l.take i).flatMap fun i => [i.op, i.a])) ++ encA [l[i].op, l[i].a] := by
       rw [List.take_succ_eq_append_getElem hlt, List.flatMap_append, <- List.cons_append, encA_append, List.append_assoc]
       simp
     have hbd : (xs ++ encA ((l.length : Int) :: (l.take i).flatMap fun i => [i.op, i.a])).length <= 10000000 := by
       have hk : Ok64 ((l.length : Int) :: (l.take i).flatMap fun i => [i.op, i.a]) := by
         refine ⟨fun n hn => h.1 n ?_, ?_⟩
         . simp only [codeN, List.mem_cons, List.mem_flatMap] at hn ⊢
           exact hn.imp id fun ⟨x, q1, q2⟩ => ⟨x, List.mem_of_mem_take q1, q2⟩
         . simp only [List.length_cons, fm_len, List.length_take]; omega
       have := hk.len
       rw [List.length_append]; omega
     rw [e]
     simp [wputc_l0, g14, g12, g13, hlt]
     refine wput_a [l[i].op, l[i].a] hi2 _ _ _ _ hbd (ga.at fun n hn => by simp; intro; omega) (fun S2 v2 b1 b2 b3 b4 => ?_)
     simp [b2, g14, g12, g13, ws]
     refine ⟨fun n hn => ?_, ?_, ?_⟩
     . simp [b3, hn, gb n hn]
     . simp only [] at b4 ⊢; omega
     . rw [List.append_assoc] at b1
       exact b1.at fun _ _ => rfl
   . have e : l.take i = l := List.take_of_length_le (by omega)
     rw [e] at ga
     simp [wputc_l0, g14, g12, g13, hlt]
     exact hk _ _ (ga.at fun _ _ => rfl) rfl gb (by simp only []; omega)
theorem wflag_pc (b : Bool) : PC Tryz.prog 66 [.bool b] (iv (if b = true then 1 else 0)) := by
 refine pc_of_get wflag_get (by simp) _ (by simp) _ ?_
 unfold wflag_c
 cases b <;> simp
end Go.Gv

namespace Go.Gv
open Go.Proofs
def struth_c : AC := (.seq (.reg [oI 2 0]) (.seq (.seq (.reg [oM 3 0]) (.cond (.t 3) (.seq (.reg [oI 2 1]) .ret) .skip)) (.seq (.reg [oI 2 0]) .ret)))
set_option maxRecDepth 100000 in
theorem struth_get : getF Tryz.prog 214 133000 [] = some ("gavotte/sums.Truth", 4, struth_c, [(.tmp 2)]) := by kernel_rfl
def sparts_c : AC := (.seq (.reg [oI 6 0, oI 7 0]) (.seq (.block 0 (.seq (.reg [oM 9 2, oZ 10 .eql 9 0, oM 8 10]) (.cond (.t 8) (.seq (.reg [oI 6 0, oI 7 3]) .ret) (.seq (.reg [oM 12 0, oZ 13 .eql 12 12, oM 11 13]) (.cond (.t 11) (.seq (.reg [oM 14 1, oM 15 2, oB 16 .quo 14 15, oM 6 16, oI 7 0]) .ret) .skip))))) (.seq (.reg [oM 17 1, oM 18 2, oB 19 .rem 17 18, oM 6 19, oI 7 0]) .ret)))
set_option maxRecDepth 100000 in
theorem sparts_get : getF Tryz.prog 215 134000 [] = some ("gavotte/sums.parts", 20, sparts_c, [(.tmp 6), (.tmp 7)]) := by kernel_rfl
def sone_c : AC := (.seq (.reg [oI 4 0, oA 5 (.mv (.c (.bool false)))]) (.seq (.seq (.reg [oM 6 0]) (.block 0 (.seq (.reg [oZ 8 .eql 6 14, oM 7 8]) (.cond (.t 7) (.seq (.reg [oM 9 1, oA 10 (.neg (.t 9)), oM 4 10, oA 5 (.mv (.c (.bool true)))]) .ret) (.seq (.reg [oZ 12 .eql 6 19, oM 11 12]) (.cond (.t 11) (.seq (.reg [oM 13 1, oZ 14 .eql 13 0, oC 15 (.c (.fn 214 [])) [(.t 14)], oM 4 15, oA 5 (.mv (.c (.bool true)))]) .ret) .skip)))))) (.seq (.reg [oI 4 0, oA 5 (.mv (.c (.bool false)))]) .ret)))
set_option maxRecDepth 100000 in
theorem sone_get : getF Tryz.prog 178 121000 [] = some ("gavotte/sums.One", 16, sone_c, [(.tmp 4), (.tmp 5)]) := by kernel_rfl
def stwo_c : AC := (.seq (.reg [oI 6 0, oI 7 0]) (.seq (.seq (.reg [oM 8 0]) (.block 0 (.seq (.reg [oZ 10 .eql 8 9, oM 9 10]) (.cond (.t 9) (.seq (.reg [oM 11 1, oM 12 2, oB 13 .add 11 12, oM 6 13, oI 7 0]) .ret) (.seq (.reg [oZ 15 .eql 8 10, oM 14 15]) (.cond (.t 14) (.seq (.reg [oM 16 1, oM 17 2, oB 18 .sub 16 17, oM 6 18, oI 7 0]) .ret) (.seq (.reg [oZ 20 .eql 8 11, oM 19 20]) (.cond (.t 19) (.seq (.reg [oM 21 1, oM 22 2, oB 23 .mul 21 22, oM 6 23, oI 7 0]) .ret) (.seq (.reg [oZ 25 .eql 8 15, oM 24 25]) (.cond (.t 24) (.seq (.reg [oM 26 1, oM 27 2, oB 28 .eql 26 27, oC 29 (.c (.fn 214 [])) [(.t 28)], oM 6 29, oI 7 0]) .ret) (.seq (.reg [oZ 31 .eql 8 16, oM 30 31]) (.cond (.t 30) (.seq (.reg [oM 32 1, oM 33 2, oB 34 .lss 32 33, oC 35 (.c (.fn 214 [])) [(.t 34)], oM 6 35, oI 7 0]) .ret) (.seq (.reg [oZ 37 .eql 8 17, oM 36 37]) (.cond (.t 36) (.seq (.reg [oM 38 1, oZ 39 .neq 38 0, oM 40 39, gM 41 40 true 2, oG 42 40 true (.ibin .neq (.t 41) (.c (.int .i64 0))), oA 43 (.pick (.t 40) (.t 42) (.c (.bool false))), oC 44 (.c (.fn 214 [])) [(.t 43)], oM 6 44, oI 7 0]) .ret) (.seq (.reg [oZ 46 .eql 8 18, oM 45 46]) (.cond (.t 45) (.seq (.reg [oM 47 1, oZ 48 .neq 47 0, oM 49 48, gM 50 49 false 2, oG 51 49 false (.ibin .neq (.t 50) (.c (.int .i64 0))), oA 52 (.pick (.t 49) (.c (.bool true)) (.t 51)), oC 53 (.c (.fn 214 [])) [(.t 52)], oM 6 53, oI 7 0]) .ret) (.seq (.seq (.reg [oZ 55 .eql 8 12, oM 54 55]) (.cond (.t 54) .skip (.reg [oZ 56 .eql 8 13, oM 54 56]))) (.cond (.t 54) (.seq (.reg [oM 57 0, oM 58 1, oM 59 2, oC 60 (.c (.fn 215 [])) [(.t 57), (.t 58), (.t 59)], oE 61 60 0, oE 62 60 1, oM 6 61, oM 7 62]) .ret) .skip)))))))))))))))))) (.seq (.reg [oI 6 0, oI 7 0]) .ret)))
set_option maxRecDepth 100000 in
theorem stwo_get : getF Tryz.prog 179 122000 [] = some ("gavotte/sums.Two", 63, stwo_c, [(.tmp 6), (.tmp 7)]) := by kernel_rfl
def tv (b : Bool) : Int := if b = true then 1 else 0
abbrev w64 (n : Int) : Int := IntKind.i64.wrap n
def oneV (op a : Int) : Int × Bool := if op = 14 then (w64 (0 - a), true) else if op = 19 then (tv (decide (a = 0)), true) else (0, false)
def twoV (op a b : Int) : Int × Int :=
 if op = 9 then (w64 (a + b), 0) else if op = 10 then (w64 (a - b), 0) else if op = 11 then (w64 (a * b), 0)
 else if op = 15 then (tv (decide (a = b)), 0) else if op = 16 then (tv (decide (a < b)), 0) else if op = 17 then (tv (decide (a ≠ 0 /\ b ≠ 0)), 0) else if op = 18 then (tv (decide (a ≠ 0 \/ b ≠ 0)), 0)
 else if op = 12 \/ op = 13 then (if b = 0 then (0, 3) else if op = 12 then (w64 (a.tdiv b), 0) else (a.tmod b, 0)) else (0, 0)
theorem struth_pc (b : Bool) : PC Tryz.prog 214 [.bool b] (iv (tv b)) := by
 refine pc_of_get struth_get (by simp) _ (by simp) _ ?_
 unfold struth_c
 cases b <;> simp [tv]
theorem sparts_pc (op a b : Int) : PC Tryz.prog 215 [iv op, iv a, iv b] (.tup [iv (if b = 0 then (0, 3) else if op = 12 then (w64 (a.tdiv b), 0) else (a.tmod b, 0)).1, iv (if b = 0 then (0, 3) else if op = 12 then (w64 (a.tdiv b), 0) else (a.tmod b, 0)).2]) := by
 refine pc_of_get sparts_get (by simp) _ (by simp) _ ?_
 unfold sparts_c
 by_cases hb : b = 0
 . simp [hb]
 . by_cases h : op = 12 <;> simp [hb, h]
theorem sone_pc (op a : Int) : PC Tryz.prog 178 [iv op, iv a] (.tup [iv (oneV op a).1, .bool (oneV op a).2]) := by
 refine pc_of_get sone_get (by simp) _ (by simp) _ ?_
 unfold sone_c oneV
 by_cases h1 : op = 14
 . simp [h1]
 by_cases h2 : op = 19
 . subst h2
   simp
   refine call (struth_pc (decide (a = 0))) (by simp) ?_
   simp
 simp [h1, h2]
theorem stwo_pc (op a b : Int) : PC Tryz.prog 179 [iv op, iv a, iv b] (.tup [iv (twoV op a b).1, iv (twoV op a b).2]) := by
 refine pc_of_get stwo_get (by simp) _ (by simp) _ ?_
 unfold stwo_c twoV
 by_cases h1 : op = 9
 . simp [h1]
 by_cases h2 : op = 10
 . simp [h2]
 by_cases h3 : op = 11
 . simp [h3]
 by_cases h4 : op = 15
 . subst h4
   simp
   refine call (struth_pc (decide (a = b))) (by simp) ?_
   simp
 by_cases h5 : op = 16
 . subst h5
   simp
   refine call (struth_pc (decide (a < b))) (by simp) ?_
   simp
 by_cases h6 : op = 17
 . subst h6
   by_cases ha : a = 0
   . simp [ha]
     refine call (struth_pc false) (by simp) ?_
     simp [ha]
   . simp [ha]
     refine call (struth_pc (!decide (b = 0))) (by simp) ?_
     simp [ha]
 by_cases h7 : op = 18
 . subst h7
   by_cases ha : a = 0
   . simp [ha]
     refine call (struth_pc (!decide (b = 0))) (by simp) ?_
     simp [ha]
   . simp [ha]
     refine call (struth_pc true) (by simp) ?_
     simp [ha]
 by_cases h8 : op = 12
 . subst h8
   simp
   refine call (sparts_pc 12 a b) (by simp) ?_
   by_cases hb : b = 0 <;> simp [hb]
 by_cases h9 : op = 13
 . subst h9
   simp
   refine call (sparts_pc 13 a b) (by simp) ?_
   by_cases hb : b = 0 <;> simp [hb]
 simp [h1, h2, h3, h4, h5, h6, h7, h8, h9]
end Go.Gv

namespace Go.Gv
open Go.Proofs
def mpop_c : AC := (.seq (.reg [oI 2 0]) (.seq (.regd [oM 4 0, oH 5 4, oF 6 11 5, oL 7 6, oM 8 0, oH 9 8, oF 10 11 9, oL 11 10, oK 12 11, oZ 13 .sub 12 1, oA 14 (.idx 1 (.t 7) (.t 13)), oL 15 14, oM 3 15] [[], [0], [1, 0], [2, 1, 0], [], [4], [5, 4], [6, 5, 4], [7, 6, 5, 4], [8, 7, 6, 5, 4], [3, 9, 2, 1, 0, 8, 7, 6, 5, 4], [10, 3, 9, 2, 1, 0, 8, 7, 6, 5, 4], [11, 0, 1, 2, 3, 4, 5, 6, 7, 8, 9, 10]]) (.seq (.regd [oM 16 0, oM 17 0, oH 18 17, oF 19 11 18, oL 20 19, oM 21 0, oH 22 21, oF 23 11 22, oL 24 23, oK 25 24, oZ 26 .sub 25 1, oA 27 (.slice (some 1) (.t 20) none (some (.t 26))), oH 28 16, oF 29 11 28, oN (.store 1 (.t 29) (.t 27))] [[], [], [1], [2, 1], [3, 2, 1], [], [5], [6, 5], [7, 6, 5], [8, 7, 6, 5], [9, 8, 7, 6, 5], [4, 10, 3, 2, 1, 9, 8, 7, 6, 5], [0, 1, 2, 3, 4, 5, 6, 7, 8, 9, 10, 11], [12, 0, 1, 2, 3, 4, 5, 6, 7, 8, 9, 10, 11], [13, 11, 0, 1, 2, 3, 4, 5, 6, 7, 8, 9, 10, 12]]) (.seq (.reg [oM 30 3, oM 2 30]) .ret))))
set_option maxRecDepth 100000 in
theorem mpop_get : getF Tryz.prog 238 108000 [] = some ("(*gavotte/vm.machine).pop", 31, mpop_c, [(.tmp 2)]) := by kernel_rfl
def mcount_c : AC := (.seq (.reg [oI 4 0]) (.seq (.reg [oM 10 0, oC 11 (.c (.fn 238 [])) [(.t 10)], oM 5 11]) (.seq (.seq (.reg [oM 13 1, oM 14 5, oC 15 (.c (.fn 178 [])) [(.t 13), (.t 14)], oM 12 15, oE 16 12 0, oE 17 12 1, oM 6 16, oM 7 17]) (.seq (.reg [oM 18 7]) (.cond (.t 18) (.seq (.reg [oM 19 0, oM 20 6, oA 21 (.bsl 111021 1 3 1 (.int .i64 0) [(0, (.t 20))]), oC 22 (.c (.fn 237 [])) [(.t 19), (.t 21)]]) (.seq (.reg [oI 4 0]) .ret)) .skip))) (.seq (.reg [oM 24 1, oM 25 0, oC 26 (.c (.fn 238 [])) [(.t 25)], oM 27 5, oC 28 (.c (.fn 179 [])) [(.t 24), (.t 26), (.t 27)], oM 23 28, oE 29 23 0, oE 30 23 1, oM 8 29, oM 9 30]) (.seq (.reg [oM 31 0, oM 32 8, oA 33 (.bsl 111033 1 3 1 (.int .i64 0) [(0, (.t 32))]), oC 34 (.c (.fn 237 [])) [(.t 31), (.t 33)]]) (.seq (.reg [oM 35 9, oM 4 35]) .ret))))))
set_option maxRecDepth 100000 in
theorem mcount_get : getF Tryz.prog 241 111000 [] = some ("(*gavotte/vm.machine).count", 36, mcount_c, [(.tmp 4)]) := by kernel_rfl
def mpush_c : AC := (.reg [oM 4 0, oM 5 0, oH 6 5, oF 7 11 6, oL 8 7, oM 9 1, oA 10 (.appw 1000107000 1 3 8 (.t 8) (.t 9)), oH 11 4, oF 12 11 11, oN (.store 1 (.t 12) (.t 10))])
set_option maxRecDepth 100000 in
theorem mpush_get : getF Tryz.prog 237 107000 [(10, 1000000000)] = some ("(*gavotte/vm.machine).push", 13, mpush_c, []) := by kernel_rfl
structure Fx where
 p : Prg
 who : Int
 args : List Int
 d : Int
 s : Int
 o : Int
 argv : AV
structure Mach where
 pc : Int
 st : List Int
 regs : List Int
 notes : List Nt
 armed : Bool
def StkIs (S : St) (v : AV) (xs : List Int) : Prop := (v = .nils /\ xs = []) \/ ∃ st es, v = .sl 1000107000 st 1 0 xs.length /\ S.blk 1000107000 = some ⟨st, 1, es⟩ /\ xs.length <= es.length /\ es.take xs.length = xs.map iv
def RegIs (S : St) (v : AV) (xs : List Int) : Prop := (v = .nils /\ xs = []) \/ ∃ st, v = .sl 1000163000 st 1 0 xs.length /\ S.blk 1000163000 = some ⟨st, 1, xs.map iv⟩
def MS (F : Fx) (st : Nat) (m : Mach) (S : St) : Prop := ∃ r sk nt, S.blk 84026 = some ⟨st, 14, [.agg [.lst 2 (F.p.hs.map Hnd.av), .lst 4 (F.p.as.map Actr.av), .lst 3 (F.p.boot.map Nt.av), iv F.p.fuel, iv F.who, F.argv, r, .bool m.armed, iv F.d, iv F.s, iv F.o, sk, nt, iv m.pc]]⟩ /\
 RegIs S r m.regs /\ StkIs S sk m.st /\ AccIs S nt 110052 3 58 (m.notes.map Nt.av)
theorem MS.mk' {F : Fx} {st : Nat} {m : Mach} {t : Nat -> AV} {b : Nat -> Option Blk} {kk : Nat -> Option Tok} {c : Nat} {r sk nt : AV} (hb : b 84026 = some ⟨st, 14, [.agg [.lst 2 (F.p.hs.map Hnd.av), .lst 4 (F.p.as.map Actr.av), .lst 3 (F.p.boot.map Nt.av), iv F.p.fuel, iv F.who, F.argv, r, .bool m.armed, iv F.d, iv F.s, iv F.o, sk, nt, iv m.pc]]⟩)
 (hr : RegIs ⟨t, b, kk, c⟩ r m.regs) (hs : StkIs ⟨t, b, kk, c⟩ sk m.st) (hn : AccIs ⟨t, b, kk, c⟩ nt 110052 3 58 (m.notes.map Nt.av)) : MS F st m ⟨t, b, kk, c⟩ := ⟨r, sk, nt, hb, hr, hs, hn⟩
def Lm (n : Nat) : Bool := !(decide (84000 <= n) && decide (n < 84020) || decide (16000 <= n) && decide (n < 16100) || decide (45000 <= n) && decide (n < 45020) || decide (n = 1000016008))
theorem ne_of_Lm {n : Nat} (hn : Lm n = false) (i : Nat) (hi : Lm i = true) : (n = i) = False := eq_false (fun e => by rw [<- e, hn] at hi; cases hi)
theorem Fr.here {L : Nat -> Bool} {S : St} {b : Nat -> Option Blk} {k : Nat -> Option Tok} {c : Nat} (hb : ∀ n, L n = false -> b n = S.blk n) (hk : ∀ n, L n = false -> k n = S.tok n) (hc : S.clk <= c) : Fr L S ⟨S.t, b, k, c⟩ := ⟨rfl, hb, hk, hc⟩
theorem pop_v (F : Fx) (st : Nat) (m : Mach) (xs : List Int) (x : Int) (hx : m.st = xs ++ [x]) (hl : xs.length < 1000) {S : St} {k : AV -> St -> Prop} {u : Dep k} (h : MS F st m S)
   (hk : ∀ S', Fr Lm S S' -> MS F st { m with st := xs } S' -> k (iv x) S') : CallG Tryz.prog (.fn 238 []) [.ptr 84026 st 14 0 0] S k u := by
 obtain ⟨r, sk, nt, hb, hr, hs, hn⟩ := h
 rw [hx] at hs
 rcases hs with ⟨_, q⟩ | ⟨s1, es, q1, q2, q3, q4⟩
 . simp at q
 have hlen : (xs ++ [x]).length = xs.length + 1 := by simp
 rw [hlen] at q1 q3 q4
 have hget : es[xs.length]? = some (iv x) := by
   have := congrArg (fun l => l[xs.length]?) q4
   simp only [List.getElem?_take_of_lt (Nat.lt_succ_self xs.length)] at this
   rw [this]; simp
 have htk : es.take xs.length = xs.map iv := by
   have := congrArg (List.take xs.length) q4
   rw [List.take_take, Nat.min_eq_left (by omega)] at this
   rw [this]; simp
 have ws : IntKind.i64.wrap (xs.length : Int) = (xs.length : Int) := wrap_in _ (by omega) (by omega)
 refine callV mpop_get (by simp) (by simp) ?_
 unfold mpop_c
 simp [hb, q1, q2, ws, hget]
 refine hk _ (Fr.here (fun n hn => by first | rfl | (repeat rw [upd_out hn rfl])) (fun n hn => by first | rfl | (repeat rw [upd_out hn rfl])) (by omega)) (MS.mk' (upd_same _ _ _) (by simpa [RegIs] using hr) ?_ (by simpa [AccIs] using hn))
 exact .inr ⟨s1, es, rfl, by simp [q2], by simp only []; omega, htk⟩
theorem push_v (F : Fx) (st : Nat) (m : Mach) (ys : List Int) (hy : ys ≠ []) (hl : m.st.length + ys.length <= 1000) (nm s0 : Nat) {S : St} {k : AV -> St -> Prop} {u : Dep k} (h : MS F st m S)
   (hk : ∀ S', Fr Lm S S' -> MS F st { m with st := m.st ++ ys } S' -> k (.tup []) S') : CallG Tryz.prog (.fn 237 []) [.ptr 84026 st 14 0 0, .acc nm s0 1 (ys.map iv)] S k u := by
 obtain ⟨r, sk, nt, hb, hr, hs, hn⟩ := h
 have hyl : 0 < ys.length := List.length_pos_iff.2 hy
 refine callV mpush_get (by simp) (by simp) ?_
 unfold mpush_c
 rcases hs with ⟨q1, q⟩ | ⟨s1, es, q1, q2, q3, q4⟩
 . simp [hb, q1, hy, show ys.length * 8 <= 140737488355328 by omega]
   refine hk _ (Fr.here (fun n hn => by first | rfl | (repeat rw [upd_out hn rfl])) (fun n hn => by first | rfl | (repeat rw [upd_out hn rfl])) (by omega)) (MS.mk' (upd_same _ _ _) (by simpa [RegIs] using hr) ?_ (by simpa [AccIs] using hn))
   exact .inr ⟨_, ys.map iv, congrArg (AV.sl _ _ _ _) (by simp [q]), by simp, by simp [q], (List.take_of_length_le (by simp [q])).trans (by simp [q])⟩
 . simp [hb, q1, q2, q3, q4, show (m.st.length + ys.length) * 8 <= 140737488355328 by omega]
   refine hk _ (Fr.here (fun n hn => by first | rfl | (repeat rw [upd_out hn rfl])) (fun n hn => by first | rfl | (repeat rw [upd_out hn rfl])) (by omega)) (MS.mk' (upd_same _ _ _) (by simpa [RegIs] using hr) ?_ (by simpa [AccIs] using hn))
   exact .inr ⟨_, (m.st ++ ys).map iv, congrArg (AV.sl _ _ _ _) (by simp), by simp, by simp, List.take_of_length_le (by simp)⟩
theorem MS.to {F : Fx} {st : Nat} {m : Mach} {S S' : St} (h : MS F st m S) (b1 : S'.blk 84026 = S.blk 84026 := by first | rfl | simp) (b2 : S'.blk 1000163000 = S.blk 1000163000 := by first | rfl | simp) (b3 : S'.blk 1000107000 = S.blk 1000107000 := by first | rfl | simp)
   (hk : S'.tok 110052 = S.tok 110052 := by first | rfl | simp) : MS F st m S' := by
 obtain ⟨r, sk, nt, h1, h2, h3, h4⟩ := h
 refine ⟨r, sk, nt, by rw [b1]; exact h1, ?_, ?_, ?_⟩
 . unfold RegIs at *; rw [b2]; exact h2
 . unfold StkIs at *; rw [b3]; exact h3
 . unfold AccIs at *; rw [hk]; exact h4
theorem count1_v (F : Fx) (st : Nat) (m : Mach) (op : Int) (xs : List Int) (b : Int) (hx : m.st = xs ++ [b]) (hl : xs.length < 900) (h1 : (oneV op b).2 = true) {S : St} {k : AV -> St -> Prop} {u : Dep k} (h : MS F st m S)
   (hk : ∀ S', Fr Lm S S' -> MS F st { m with st := xs ++ [(oneV op b).1] } S' -> k (iv 0) S') : CallG Tryz.prog (.fn 241 []) [.ptr 84026 st 14 0 0, iv op] S k u := by
 refine callV mcount_get (by simp) (by simp) ?_
 unfold mcount_c
 simp
 refine pop_v F st m xs b hx (by omega) h.to ?_
 rintro S1 ⟨ht1, hb1, hk1, hc1⟩ hM1
 simp [ht1]
 refine call (sone_pc op b) (by simp) ?_
 simp [ht1, h1]
 refine push_v F st { m with st := xs } [(oneV op b).1] (by simp) (by simp; omega) _ _ hM1.to ?_
 rintro S2 ⟨ht2, hb2, hk2, hc2⟩ hM2
 simp [ht2]
 exact hk _ (Fr.here (fun n hn => by simp [hb2 n hn, hb1 n hn, ne_of_Lm hn, Lm]) (fun n hn => by simp [hk2 n hn, hk1 n hn, ne_of_Lm hn, Lm]) (by simp at hc1 hc2 ⊢; omega)) hM2.to
theorem count2_v (F : Fx) (st : Nat) (m : Mach) (op : Int) (xs : List Int) (a b : Int) (hx : m.st = xs ++ [a, b]) (hl : xs.length < 900) (h1 : (oneV op b).2 = false) {S : St} {k : AV -> St -> Prop} {u : Dep k} (h : MS F st m S)
   (hk : ∀ S', Fr Lm S S' -> MS F st { m with st := xs ++ [(twoV op a b).1] } S' -> k (iv (twoV op a b).2) S') : CallG Tryz.prog (.fn 241 []) [.ptr 84026 st 14 0 0, iv op] S k u := by
 refine callV mcount_get (by simp) (by simp) ?_
 unfold mcount_c
 simp
 refine pop_v F st m (xs ++ [a]) b (by simp [hx]) (by simp; omega) h.to ?_
 rintro S1 ⟨ht1, hb1, hk1, hc1⟩ hM1
 simp [ht1]
 refine call (sone_pc op b) (by simp) ?_
 simp [ht1, h1]
 refine pop_v F st { m with st := xs ++ [a] } xs a rfl (by omega) hM1.to ?_
 rintro S2 ⟨ht2, hb2, hk2, hc2⟩ hM2
 simp [ht2]
 refine call (stwo_pc op a b) (by simp) ?_
 simp [ht2]
 refine push_v F st { m with st := xs } [(twoV op a b).1] (by simp) (by simp; omega) _ _ hM2.to ?_
 rintro S3 ⟨ht3, hb3, hk3, hc3⟩ hM3
 simp [ht3]
 exact hk _ (Fr.here (fun n hn => by simp [hb3 n hn, hb2 n hn, hb1 n hn, ne_of_Lm hn, Lm]) (fun n hn => by simp [hk3 n hn, hk2 n hn, hk1 n hn, ne_of_Lm hn, Lm]) (by simp at hc1 hc2 hc3 ⊢; omega)) hM3.to
theorem pop_x {st s1 n : Nat} {x : Int} {es : List AV} {c0 c1 c2 c3 c4 c5 c6 c7 c8 c9 c10 nt c13 : AV} {S : St} {k : AV -> St -> Prop} {u : Dep k} (hn : n < 1000)
   (hb : S.blk 84026 = some ⟨st, 14, [.agg [c0, c1, c2, c3, c4, c5, c6, c7, c8, c9, c10, .sl 1000107000 s1 1 0 (n + 1), nt, c13]]⟩) (q2 : S.blk 1000107000 = some ⟨s1, 1, es⟩) (hl : n + 1 <= es.length) (hget : es[n]? = some (iv x))
   (hk : k (iv x) ⟨S.t, upd S.blk 84026 (some ⟨st, 14, [.agg [c0, c1, c2, c3, c4, c5, c6, c7, c8, c9, c10, .sl 1000107000 s1 1 0 n, nt, c13]]⟩), S.tok, S.clk + 1 + 13 + 15 + 2⟩) : CallG Tryz.prog (.fn 238 []) [.ptr 84026 st 14 0 0] S k u := by
 have ws : IntKind.i64.wrap (n : Int) = (n : Int) := wrap_in _ (by omega) (by omega)
 refine callV mpop_get (by simp) (by simp) ?_
 unfold mpop_c
 simp [hb, q2, ws, hget]
 exact hk
end Go.Gv

namespace Go.Gv
open Go.Proofs
def mreg_c : AC := (.seq (.reg [oA 3 (.box 109003 2 (.t 1))]) (.seq (.regd [oF 5 1 3, oL 6 5, oM 7 0, oH 8 7, oF 9 6 8, oF 10 0 9, oL 11 10, oK 12 11, oB 13 .lss 6 12, oM 4 13] [[], [0], [], [2], [3, 2], [4, 3, 2], [5, 4, 3, 2], [6, 5, 4, 3, 2], [1, 7, 0, 6, 5, 4, 3, 2], [8, 0, 1, 2, 3, 4, 5, 6, 7]]) (.block 0 (.seq (.reg [oF 18 0 3, oL 19 18, oZ 20 .eql 19 6, oM 21 20, gM 22 21 true 4, oA 23 (.pick (.t 21) (.t 22) (.c (.bool false))), oM 17 23]) (.cond (.t 17) (.regi [oM 24 0, oH 25 24, oF 26 6 25, oF 27 0 26, oL 28 27, oF 29 1 3, oL 30 29, oM 31 0, oC 32 (.c (.fn 238 [])) [(.t 31)], oA 33 (.idx 1 (.t 28) (.t 30)), oN (.store 1 (.t 33) (.t 32))] [[], [0], [1, 0], [2, 1, 0], [3, 2, 1, 0], [], [5], [], [7], [4, 6, 0, 1, 2, 3, 5, 7, 8], [9, 8, 0, 1, 2, 3, 4, 5, 6, 7]]) (.seq (.reg [oF 35 0 3, oL 36 35, oZ 37 .eql 36 6, oM 34 37]) (.cond (.t 34) (.reg [oM 38 0, oC 39 (.c (.fn 238 [])) [(.t 38)]]) (.seq (.reg [oM 41 4, oM 40 41]) (.cond (.t 40) (.regi [oM 42 0, oM 43 0, oH 44 43, oF 45 6 44, oF 46 0 45, oL 47 46, oF 48 1 3, oL 49 48, oA 50 (.idx 1 (.t 47) (.t 49)), oL 51 50, oA 52 (.bsl 109052 1 3 1 (.int .i64 0) [(0, (.t 51))]), oC 53 (.c (.fn 237 [])) [(.t 42), (.t 52)]] [[], [], [1], [2, 1], [3, 2, 1], [4, 3, 2, 1], [], [6], [5, 7, 4, 3, 2, 1, 6], [8, 5, 7, 4, 3, 2, 1, 6], [9, 8, 5, 7, 4, 3, 2, 1, 6], [0, 10, 9, 8, 5, 7, 4, 3, 2, 1, 6]]) (.reg [oM 14 0, oA 15 (.bsl 109015 1 3 1 (.int .i64 0) [(0, (.c (.int .i64 0)))]), oC 16 (.c (.fn 237 [])) [(.t 14), (.t 15)]]))))))))))
set_option maxRecDepth 100000 in
theorem mreg_get : getF Tryz.prog 239 109000 [(2000004, 1), (2000008, 1)] = some ("(*gavotte/vm.machine).register", 54, mreg_c, []) := by kernel_rfl
theorem RegIs.len {S : St} {v : AV} {xs : List Int} (h : RegIs S v xs) : lenOf v = some xs.length := by
 rcases h with ⟨rfl, rfl⟩ | ⟨st, rfl, _⟩ <;> rfl
def loadV (m : Mach) (a : Int) : Int := if a < m.regs.length then (m.regs[a.toNat]?).getD 0 else 0
theorem regload_v (F : Fx) (st : Nat) (m : Mach) (i : Ins) (h6 : i.op ≠ 6) (ha : 0 <= i.a) (hr8 : m.regs.length <= 1000) (hl : m.st.length < 900) {S : St} {k : AV -> St -> Prop} {u : Dep k} (h : MS F st m S)
   (hk : ∀ S', Fr Lm S S' -> MS F st { m with st := m.st ++ [loadV m i.a] } S' -> k (.tup []) S') : CallG Tryz.prog (.fn 239 []) [.ptr 84026 st 14 0 0, i.av] S k u := by
 refine callV mreg_get (by simp) (by simp) ?_
 unfold mreg_c
 obtain ⟨r, sk, nt, hb, hr, hs, hn⟩ := h
 have hrl := hr.len
 simp [hb, hrl]
 by_cases h1 : i.a < m.regs.length
 . simp [h1, h6, hb, hrl]
   have hM : MS F st m S := ⟨r, sk, nt, hb, hr, hs, hn⟩
   rcases hr with ⟨rfl, q⟩ | ⟨s1, rfl, q2⟩
   . rw [q] at h1; simp at h1; omega
   have hat : i.a.toNat < m.regs.length := by omega
   have hget : m.regs[i.a.toNat]? = some m.regs[i.a.toNat] := List.getElem?_eq_getElem hat
   have hld : loadV m i.a = m.regs[i.a.toNat] := by unfold loadV; rw [if_pos h1, hget]; rfl
   refine regi_end (by simp) (by rfl) ?_
   simp [hb, q2, ha, hat]
   refine push_v F st m [m.regs[i.a.toNat]] (by simp) (by simp; omega) _ _ hM.to ?_
   rintro S1 ⟨ht1, hb1, hk1, hc1⟩ hM1
   simp [ht1]
   exact hk _ (Fr.here (fun n hn => by simp [hb1 n hn, ne_of_Lm hn, Lm]) (fun n hn => by simp [hk1 n hn, ne_of_Lm hn, Lm]) (by simp at hc1 ⊢; omega)) (by rw [hld]; exact hM1.to)
 . simp [h1, h6, hb, hrl]
   have hM : MS F st m S := ⟨r, sk, nt, hb, hr, hs, hn⟩
   have hld : loadV m i.a = 0 := by unfold loadV; rw [if_neg h1]
   refine push_v F st m [0] (by simp) (by simp; omega) _ _ hM.to ?_
   rintro S1 ⟨ht1, hb1, hk1, hc1⟩ hM1
   simp [ht1]
   exact hk _ (Fr.here (fun n hn => by simp [hb1 n hn, ne_of_Lm hn, Lm]) (fun n hn => by simp [hk1 n hn, ne_of_Lm hn, Lm]) (by simp at hc1 ⊢; omega)) (by rw [hld]; exact hM1.to)
theorem regstore_v (F : Fx) (st : Nat) (m : Mach) (i : Ins) (h6 : i.op = 6) (xs : List Int) (x : Int) (hx : m.st = xs ++ [x]) (ha : 0 <= i.a) (h1 : i.a < m.regs.length) (hr8 : m.regs.length <= 1000) (hl : xs.length < 900) {S : St} {k : AV -> St -> Prop} {u : Dep k} (h : MS F st m S)
   (hk : ∀ S', Fr Lm S S' -> MS F st { m with st := xs, regs := m.regs.set i.a.toNat x } S' -> k (.tup []) S') : CallG Tryz.prog (.fn 239 []) [.ptr 84026 st 14 0 0, i.av] S k u := by
 refine callV mreg_get (by simp) (by simp) ?_
 unfold mreg_c
 obtain ⟨r, sk, nt, hb, hr, hs, hn⟩ := h
 rcases hr with ⟨rfl, q⟩ | ⟨s1, rfl, q2⟩
 . rw [q] at h1; simp at h1; omega
 rw [hx] at hs
 rcases hs with ⟨_, q⟩ | ⟨s2, es, rfl, p2, p3, p4⟩
 . simp at q
 have hlen : (xs ++ [x]).length = xs.length + 1 := by simp
 rw [hlen] at hb p3 p4
 have hget : es[xs.length]? = some (iv x) := by
   have := congrArg (fun l => l[xs.length]?) p4
   simp only [List.getElem?_take_of_lt (Nat.lt_succ_self xs.length)] at this
   rw [this]; simp
 have htk : es.take xs.length = xs.map iv := by
   have := congrArg (List.take xs.length) p4
   rw [List.take_take, Nat.min_eq_left (by omega)] at this
   rw [this]; simp
 have hat : i.a.toNat < m.regs.length := by omega
 simp [hb, h1, h6]
 generalize hB : upd S.blk 109003 (some ⟨S.clk, 2, [.agg [iv 6, iv i.a]]⟩) = Bq
 generalize hc0 : S.clk + 1 + 10 + 7 + 11 = c0
 have hB1 : Bq 84026 = S.blk 84026 := by rw [<- hB]; simp
 have hB2 : Bq 1000107000 = S.blk 1000107000 := by rw [<- hB]; simp
 have hB3 : Bq 1000163000 = S.blk 1000163000 := by rw [<- hB]; simp
 have hB4 : Bq 109003 = some ⟨S.clk, 2, [.agg [iv 6, iv i.a]]⟩ := by rw [<- hB]; simp
 let tbl : List (Nat × AV) := [(24, .ptr 84026 st 14 0 0), (25, .ptr 84026 st 14 0 0), (26, .ptr 84026 st 14 0 6), (27, .ptr 84026 st 14 0 6), (28, .sl 1000163000 s1 1 0 m.regs.length), (29, .ptr 109003 S.clk 2 0 1), (30, iv i.a), (31, .ptr 84026 st 14 0 0), (32, iv x), (33, .ptr 1000163000 s1 1 i.a.toNat 0)]
 let M : Nat -> Option Blk := fun q => some ⟨st, 14, [.agg [.lst 2 (F.p.hs.map Hnd.av), .lst 4 (F.p.as.map Actr.av), .lst 3 (F.p.boot.map Nt.av), iv F.p.fuel, iv F.who, F.argv, .sl 1000163000 s1 1 0 m.regs.length, .bool m.armed, iv F.d, iv F.s, iv F.o, .sl 1000107000 s2 1 0 q, nt, iv m.pc]]⟩
 have hnd : (tbl.map (·.1)).Nodup := by simp [tbl]
 obtain ⟨I, hI⟩ : ∃ I : (Nat -> Bool) -> St -> Prop, ∀ D S', I D S' ↔ (SF tbl D S' /\ S'.t 0 = .ptr 84026 st 14 0 0 /\ S'.t 3 = .ptr 109003 S.clk 2 0 0 /\ c0 <= S'.clk /\ S'.tok = S.tok /\ S'.blk = (if D 10 = true then upd (upd Bq 84026 (M xs.length)) 1000163000 (some ⟨s1, 1, (m.regs.set i.a.toNat x).map iv⟩) else if D 8 = true then upd Bq 84026 (M xs.length) else Bq)) := ⟨_, fun _ _ => Iff.rfl⟩
 have stp : ∀ (D : Nat -> Bool) (S' : St) (j d : Nat) (v : AV) (op : AOp) (st' : Nat), tbl[j]? = some (d, v) -> j ≠ 8 -> j ≠ 10 -> d ≠ 0 -> d ≠ 3 -> I D S' -> ex S'.t S'.blk S'.tok st' op = some { v := v } -> stepV Tryz.prog st' ⟨some d, none, .op op⟩ S' (I (fun i => (i == j) || D i)) := by
   intro D S' j d v op st' hj n8 n10 d0 d3 hi he
   obtain ⟨hsf, h0, h3, hc, ht, hbk⟩ := (hI _ _).1 hi
   refine stepV_op _ he ((hI _ _).2 ⟨hsf.ins hnd hj (upd_same _ _ _) (fun y hy => upd_ne _ _ _ _ hy), (upd_ne _ _ _ _ (Ne.symm d0)).trans h0, (upd_ne _ _ _ _ (Ne.symm d3)).trans h3, hc, ht, hbk.trans ?_⟩)
   simp [show (10 == j) = false by simp; omega, show (8 == j) = false by simp; omega]
 show regI _ _ _ _ _ _
 refine ⟨I, (hI _ _).2 ⟨SF.start _ _, by simp, by simp, Nat.le_refl _, rfl, by simp⟩, ?_, ?_⟩
 . rintro D S' j ai hj hDj hpre hcl hi
   obtain ⟨hsf, h0, h3, hc, ht, hbk⟩ := (hI _ _).1 hi
   have hM4 : D 4 = false -> ∃ sk, S'.blk 84026 = some ⟨st, 14, [.agg [.lst 2 (F.p.hs.map Hnd.av), .lst 4 (F.p.as.map Actr.av), .lst 3 (F.p.boot.map Nt.av), iv F.p.fuel, iv F.who, F.argv, .sl 1000163000 s1 1 0 m.regs.length, .bool m.armed, iv F.d, iv F.s, iv F.o, sk, nt, iv m.pc]]⟩ := by
     intro h4
     have d10 : D 10 = false := by
       cases hx : D 10 with
       | false => rfl
       | true => have := hcl 10 hx 4 (by simp); rw [h4] at this; cases this
     rw [hbk]
     by_cases d8 : D 8 = true
     . exact ⟨_, by simp [d10, d8, M]; rfl⟩
     . exact ⟨_, by simp [d10, d8, hB1, hb]; rfl⟩
   match j, hj, hDj, hpre with
   | 0, hj, hDj, hpre =>
     simp at hj; subst hj
     exact stp D S' 0 24 _ _ _ rfl (by simp) (by simp) (by simp) (by simp) hi (by simp [h0])
   | 1, hj, hDj, hpre =>
     simp at hj hpre; subst hj
     exact stp D S' 1 25 _ _ _ rfl (by simp) (by simp) (by simp) (by simp) hi (by simp [hsf 0 24 _ rfl hpre])
   | 2, hj, hDj, hpre =>
     simp at hj hpre; subst hj
     exact stp D S' 2 26 _ _ _ rfl (by simp) (by simp) (by simp) (by simp) hi (by simp [hsf 1 25 _ rfl hpre.1])
   | 3, hj, hDj, hpre =>
     simp at hj hpre; subst hj
     exact stp D S' 3 27 _ _ _ rfl (by simp) (by simp) (by simp) (by simp) hi (by simp [hsf 2 26 _ rfl hpre.1])
   | 4, hj, hDj, hpre =>
     simp at hj hpre; subst hj
     obtain ⟨sk, hsk⟩ := hM4 hDj
     exact stp D S' 4 28 _ _ _ rfl (by simp) (by simp) (by simp) (by simp) hi (by simp [hsf 3 27 _ rfl hpre.1, hsk])
   | 5, hj, hDj, hpre =>
     simp at hj hpre; subst hj
     exact stp D S' 5 29 _ _ _ rfl (by simp) (by simp) (by simp) (by simp) hi (by simp [h3])
   | 6, hj, hDj, hpre =>
     simp at hj hpre; subst hj
     have h9 : S'.blk 109003 = some ⟨S.clk, 2, [.agg [iv 6, iv i.a]]⟩ := by
       rw [hbk]; split <;> (try split) <;> simp [hB4]
     exact stp D S' 6 30 _ _ _ rfl (by simp) (by simp) (by simp) (by simp) hi (by simp [hsf 5 29 _ rfl hpre, h9])
   | 7, hj, hDj, hpre =>
     simp at hj hpre; subst hj
     exact stp D S' 7 31 _ _ _ rfl (by simp) (by simp) (by simp) (by simp) hi (by simp [h0])
   | 8, hj, hDj, hpre =>
     simp at hj hpre; subst hj
     have d10 : D 10 = false := by
       cases hx : D 10 with
       | false => rfl
       | true => have := hcl 10 hx 8 (by simp); rw [hDj] at this; cases this
     rw [if_neg (by rw [d10]; simp), if_neg (by rw [hDj]; simp)] at hbk
     refine stepV_call ?_
     simp [hsf 7 31 _ rfl hpre]
     refine pop_x (by omega) (by rw [hbk, hB1]; exact hb) (by rw [hbk, hB2]; exact p2) p3 hget ?_
     refine (hI _ _).2 ⟨hsf.ins hnd (j := 8) (d := 32) (v := iv x) rfl (by simp) (fun y hy => by simp [hy]), by simp [h0], by simp [h3], by simp; omega, by simp [ht], ?_⟩
     simp [d10, hbk, M]
   | 9, hj, hDj, hpre =>
     simp at hj hpre; subst hj
     exact stp D S' 9 33 _ _ _ rfl (by simp) (by simp) (by simp) (by simp) hi (by simp [hsf 4 28 _ rfl hpre.1, hsf 6 30 _ rfl hpre.2.1, ha, hat])
   | 10, hj, hDj, hpre =>
     simp at hj hpre; subst hj
     have d8 : D 8 = true := hpre.2.1
     rw [if_neg (by rw [hDj]; simp), if_pos d8] at hbk
     have hr' : S'.blk 1000163000 = some ⟨s1, 1, m.regs.map iv⟩ := by rw [hbk]; simp [hB3, q2]
     refine stepV_op { v := .junk, wb := [(1000163000, some ⟨s1, 1, (m.regs.set i.a.toNat x).map iv⟩)] } (by simp [hsf 9 33 _ rfl hpre.1, hsf 8 32 _ rfl hpre.2.1, hr', hat]) ?_
     refine (hI _ _).2 ⟨hsf.keep (j := 10) rfl rfl, h0, h3, hc, ht, ?_⟩
     simp [St.app, appB, hbk]
   | j + 11, hj, hDj, hpre => simp at hj
 . rintro D S' hD hi
   obtain ⟨hsf, h0, h3, hc, ht, hbk⟩ := (hI _ _).1 hi
   rw [if_pos (hD 10 (by simp))] at hbk
   simp
   have m1 : S'.blk 84026 = M xs.length := by rw [hbk]; simp
   have m2 : S'.blk 1000163000 = some ⟨s1, 1, (m.regs.set i.a.toNat x).map iv⟩ := by rw [hbk]; simp
   have m3 : S'.blk 1000107000 = some ⟨s2, 1, es⟩ := by rw [hbk]; simp [hB2, p2]
   refine hk _ ⟨rfl, fun n hn => ?_, fun n hn => by rw [ht], by simp only []; omega⟩ (MS.mk' m1 (.inr ⟨s1, congrArg (AV.sl _ _ _ _) (by simp), m2⟩) (.inr ⟨s2, es, rfl, m3, by simp only []; omega, htk⟩) (by simpa [AccIs, ht] using hn))
   rw [hbk, <- hB]
   simp [ne_of_Lm hn, Lm]
end Go.Gv

namespace Go.Gv
open Go.Proofs
def cloneX_c : AC := (.seq (.reg [oA 2 (.mv (.c .nils))]) (.seq (.seq (.reg [oM 3 0, ⟨(some 4), none, (.nq 0 false (.t 3))⟩]) (.cond (.t 4) (.seq (.reg [oA 2 (.mv (.c .nils))]) .ret) .skip)) (.seq (.reg [oA 5 (.bsl 63005 1 3 0 (.int .i64 0) []), oM 6 0, oA 7 (.app 63007 1 3 8 (.t 5) (.t 6)), oM 2 7]) .ret)))
set_option maxRecDepth 100000 in
theorem cloneX_get : getF Tryz.prog 91 63000 [] = some ("slices.Clone[[]int,int]", 8, cloneX_c, [(.tmp 2)]) := by kernel_rfl
def msend_c : AC := (.seq (.reg [oI 4 0]) (.seq (.reg [oM 7 0, oC 8 (.c (.fn 238 [])) [(.t 7)], oM 5 8]) (.seq (.seq (.reg [oM 9 5, oZ 10 .lss 9 0, oM 11 10, gM 12 11 false 5, gM 13 11 false 0, oG 14 11 false (.nilck (.t 13)), gF 15 11 false 0 14, gF 16 11 false 1 15, gL 17 11 false 16, oG 18 11 false (.len (.t 17)), oG 19 11 false (.ibin .geq (.t 12) (.t 18)), oA 20 (.pick (.t 11) (.c (.bool true)) (.t 19))]) (.cond (.t 20) (.seq (.reg [oI 4 4]) .ret) .skip)) (.seq (.regd [oM 21 0, oH 22 21, oF 23 11 22, oL 24 23, oK 25 24, oM 26 0, oH 27 26, oF 28 0 27, oF 29 0 28, oL 30 29, oM 31 1, oA 32 (.idx 2 (.t 30) (.t 31)), oF 33 0 32, oL 34 33, oB 35 .sub 25 34, oM 6 35] [[], [0], [1, 0], [2, 1, 0], [3, 2, 1, 0], [], [5], [6, 5], [7, 6, 5], [8, 7, 6, 5], [], [9, 10, 8, 7, 6, 5], [11, 9, 10, 8, 7, 6, 5], [12, 11, 9, 10, 8, 7, 6, 5], [4, 13, 3, 2, 1, 0, 12, 11, 9, 10, 8, 7, 6, 5], [14, 0, 1, 2, 3, 4, 5, 6, 7, 8, 9, 10, 11, 12, 13]]) (.seq (.regi [oM 36 0, oM 37 0, oH 38 37, oF 39 12 38, oL 40 39, oM 41 5, oM 42 1, oM 43 0, oH 44 43, oF 45 11 44, oL 46 45, oM 47 6, oA 48 (.slice (some 1) (.t 46) (some (.t 47)) none), oC 49 (.c (.fn 91 [])) [(.t 48)], oA 50 (.build [(.int .i64 0), (.int .i64 0), .nils] [(0, (1, (.t 41))), (1, (1, (.t 42))), (2, (1, (.t 49)))]), oA 51 (.bsl 110051 3 58 1 (.agg [(.int .i64 0), (.int .i64 0), .nils]) [(0, (.t 50))]), oA 52 (.app 110052 3 58 40 (.t 40) (.t 51)), oH 53 36, oF 54 12 53, oN (.store 1 (.t 54) (.t 52))] [[], [], [1], [2, 1], [3, 2, 1], [], [], [], [7], [8, 7], [9, 8, 7], [], [10, 11, 9, 8, 7], [12, 10, 11, 9, 8, 7], [5, 6, 13, 12, 10, 11, 9, 8, 7], [14, 5, 6, 13, 12, 10, 11, 9, 8, 7], [4, 15, 13, 3, 2, 1, 14, 5, 6, 12, 10, 11, 9, 8, 7], [0, 1, 2, 3, 4, 5, 6, 7, 8, 9, 10, 11, 12, 13, 14, 15, 16], [17, 0, 1, 2, 3, 4, 5, 6, 7, 8, 9, 10, 11, 12, 13, 14, 15, 16], [18, 16, 0, 1, 2, 3, 4, 5, 6, 7, 8, 9, 10, 11, 12, 13, 14, 15, 17]]) (.seq (.reg [oM 55 0, oM 56 0, oH 57 56, oF 58 11 57, oL 59 58, oM 60 6, oA 61 (.slice (some 1) (.t 59) none (some (.t 60))), oH 62 55, oF 63 11 62, oN (.store 1 (.t 63) (.t 61))]) (.seq (.reg [oI 4 0]) .ret)))))))
set_option maxRecDepth 100000 in
theorem msend_get : getF Tryz.prog 240 110000 [(2000005, 1)] = some ("(*gavotte/vm.machine).send", 64, msend_c, [(.tmp 4)]) := by kernel_rfl
def accV : AV -> AV
 | .acc _ _ s xs => .lst s xs
 | v => v
def nilV : AV -> AV
 | .nils => .lst 1 []
 | v => v
theorem Wkh.accV {c c' : Nat} (hc : c <= c') {h h' : Hp} (hb : ∀ n b, h'.blk n = some b -> h.blk n = some b) (ht : ∀ n t, h'.tok n = some t -> h.tok n = some t) : Wkh c c' h h' Go.Gv.accV :=
 ⟨hc, fun E B w H hu => ⟨E, .refl E, H.sub hb ht, fun _ _ _ => rfl, fun _ h => h, fun x v hr => by
   cases x with
   | acc nm st s xs => cases hr with | acc _ _ _ _ _ _ _ hl => exact hl
   | _ => exact hr⟩⟩
theorem Wkh.nilV {c c' : Nat} (hc : c <= c') {h h' : Hp} (hb : ∀ n b, h'.blk n = some b -> h.blk n = some b) (ht : ∀ n t, h'.tok n = some t -> h.tok n = some t) : Wkh c c' h h' Go.Gv.nilV :=
 ⟨hc, fun E B w H hu => ⟨E, .refl E, H.sub hb ht, fun _ _ _ => rfl, fun _ h => h, fun x v hr => by
   cases x with
   | nils => rw [hr.nils_inv]; exact .lst0 _ _ _
   | _ => exact hr⟩⟩
theorem clone_x (nm st off len : Nat) (ys : List Int) {S : St} {k : AV -> St -> Prop} {u : Dep k} (hl : listOf S.blk 1 (.sl nm st 1 off len) = some (ys.map iv)) (hn : ys.length <= 1000)
   (hk : ∀ c, S.clk <= c -> k (.lst 1 (ys.map iv)) ⟨S.t, S.blk, upd (upd S.tok 63005 none) 63007 none, c⟩) : CallG Tryz.prog (.fn 91 []) [.sl nm st 1 off len] S k u := by
 refine CallP.told (k' := fun r S' => (r = .nils /\ ys = [] /\ S'.t = S.t /\ S'.blk = S.blk /\ S'.tok = S.tok /\ S.clk <= S'.clk) \/ ∃ s', r = .acc 63007 s' 1 (ys.map iv) /\ S'.t = S.t /\ S'.blk = S.blk /\ (∀ n, n ≠ 63007 -> n ≠ 63005 -> S'.tok n = S.tok n) /\ S.clk <= S'.clk) ?_ ?_
 . show CallG Tryz.prog _ _ S _ .mk
   refine callV cloneX_get (by simp) (by simp) ?_
   unfold cloneX_c
   by_cases h0 : 0 < len
   . simp [h0, hl, show ys.length * 8 <= 140737488355328 by omega]
     refine ⟨?_, by omega⟩
     intro n h1 h2
     simp [upd, h1, h2]
   . obtain rfl : len = 0 := by omega
     have hy : ys = [] := by
       unfold listOf at hl
       simp [Option.bind_eq_some_iff] at hl
       obtain ⟨_, _, _, q⟩ := hl
       simpa using q
     subst hy
     simp
     refine opG_none _ _ ?_ ?_
     . simp [hl]
       try omega
     . simp [hl]
       refine ⟨fun n h1 h2 => ?_, by omega⟩
       simp [upd, h1, h2]
 . rintro r S' (⟨rfl, rfl, e1, e2, e3, e4⟩ | ⟨s', rfl, e1, e2, e3, e4⟩)
   . refine ⟨⟨S.t, S.blk, upd (upd S.tok 63005 none) 63007 none, S'.clk⟩, nilV, Wkh.nilV (Nat.le_refl _) ?_ ?_, ?_, hk S'.clk e4⟩
     . intro n b hb; simpa [St.h, e2] using hb
     . intro n t ht
       simp only [St.h, upd] at ht ⊢
       rw [e3]
       split at ht
       . cases ht
       . split at ht
         . cases ht
         . exact ht
     . exact e1.symm
   . refine ⟨⟨S.t, S.blk, upd (upd S.tok 63005 none) 63007 none, S'.clk⟩, accV, Wkh.accV (Nat.le_refl _) ?_ ?_, ?_, hk S'.clk e4⟩
     . intro n b hb; simpa [St.h, e2] using hb
     . intro n t ht
       simp only [St.h, upd] at ht ⊢
       split at ht
       . cases ht
       . split at ht
         . cases ht
         . rw [e3 n ‹_› ‹_›]; exact ht
     . exact e1.symm
theorem send_v (F : Fx) (st : Nat) (m : Mach) (hd : Int) (xs bs : List Int) (to : Int) (hx : m.st = xs ++ bs ++ [to]) (h0 : 0 <= hd) (x : Hnd) (hh : F.p.hs[hd.toNat]? = some x) (hargs : x.args = bs.length) (hl : (xs ++ bs).length < 900) (hnl : m.notes.length < 1000) {S : St} {k : AV -> St -> Prop} {u : Dep k} (h : MS F st m S)
   (hk1 : (to < 0 \/ to >= F.p.as.length) -> ∀ S', Fr Lm S S' -> MS F st { m with st := xs ++ bs } S' -> k (iv 4) S')
   (hk2 : ¬ (to < 0 \/ to >= F.p.as.length) -> ∀ S', Fr Lm S S' -> MS F st { m with st := xs, notes := m.notes ++ [⟨to, hd, bs⟩] } S' -> k (iv 0) S') : CallG Tryz.prog (.fn 240 []) [.ptr 84026 st 14 0 0, iv hd] S k u := by
 refine callV msend_get (by simp) (by simp) ?_
 unfold msend_c
 simp
 by_cases hlost : to < 0 \/ to >= F.p.as.length
 . refine pop_v F st m (xs ++ bs) to (by rw [hx]) (by omega) h.to ?_
   rintro S1 ⟨ht1, hb1, hk1', hc1⟩ hM1
   obtain ⟨r, sk, nt, hb, hr, hs, hn⟩ := hM1
   by_cases hneg : to < 0
   . simp [ht1, hneg]
     exact hk1 hlost _ (Fr.here (fun n hn => by simp [hb1 n hn, ne_of_Lm hn, Lm]) (fun n hn => by simp [hk1' n hn, ne_of_Lm hn, Lm]) (by simp at hc1 ⊢; omega)) (MS.to ⟨r, sk, nt, hb, hr, hs, hn⟩)
   . simp [ht1, hneg, hb, show (F.p.as.length : Int) <= to by omega]
     exact hk1 hlost _ (Fr.here (fun n hn => by simp [hb1 n hn, ne_of_Lm hn, Lm]) (fun n hn => by simp [hk1' n hn, ne_of_Lm hn, Lm]) (by simp at hc1 ⊢; omega)) (MS.to ⟨r, sk, nt, hb, hr, hs, hn⟩)
 obtain ⟨r, sk, nt, hb, hr, hs, hn⟩ := h
 rw [hx] at hs
 rcases hs with ⟨_, q⟩ | ⟨s2, es, rfl, p2, p3, p4⟩
 . simp at q
 have hlen : (xs ++ bs ++ [to]).length = (xs ++ bs).length + 1 := by rw [List.length_append]; rfl
 rw [hlen] at hb p3 p4
 have hget : es[(xs ++ bs).length]? = some (iv to) := by
   have := congrArg (fun l => l[(xs ++ bs).length]?) p4
   simp only [List.getElem?_take_of_lt (Nat.lt_succ_self (xs ++ bs).length)] at this
   rw [this, List.map_append, List.getElem?_append_right (by simp)]; simp
 have htk : es.take (xs ++ bs).length = (xs ++ bs).map iv := by
   have := congrArg (List.take (xs ++ bs).length) p4
   rw [List.take_take, Nat.min_eq_left (by omega)] at this
   rw [this, List.map_append, List.take_left' (by simp)]
 refine pop_x (by omega) hb p2 p3 hget ?_
 have hxb : (xs ++ bs).length = xs.length + bs.length := List.length_append
 have hw : IntKind.i64.wrap (((xs ++ bs).length : Int) - (bs.length : Int)) = (xs.length : Int) := by rw [wrap_in _ (by omega) (by omega)]; omega
 have hj : hd.toNat < F.p.hs.length := (List.getElem?_eq_some_iff.1 hh).1
 have hx' : F.p.hs[hd.toNat] = x := (List.getElem?_eq_some_iff.1 hh).2
 generalize hNL : (xs ++ bs).length = NL at *
 simp [show ¬ to < 0 by omega, show ¬ (F.p.as.length : Int) <= to by omega, h0, hj, hx', hargs, hw]
 generalize hc0 : S.clk + 1 + 3 + 1 + 13 + 15 + 2 + 12 + 16 = c0
 generalize hB : upd S.blk 84026 (some ⟨st, 14, [.agg [.lst 2 (F.p.hs.map Hnd.av), .lst 4 (F.p.as.map Actr.av), .lst 3 (F.p.boot.map Nt.av), iv F.p.fuel, iv F.who, F.argv, r, .bool m.armed, iv F.d, iv F.s, iv F.o, .sl 1000107000 s2 1 0 NL, nt, iv m.pc]]⟩) = Bq
 have hB1 : Bq 84026 = some ⟨st, 14, [.agg [.lst 2 (F.p.hs.map Hnd.av), .lst 4 (F.p.as.map Actr.av), .lst 3 (F.p.boot.map Nt.av), iv F.p.fuel, iv F.who, F.argv, r, .bool m.armed, iv F.d, iv F.s, iv F.o, .sl 1000107000 s2 1 0 NL, nt, iv m.pc]]⟩ := by rw [<- hB]; simp
 have hB2 : Bq 1000107000 = some ⟨s2, 1, es⟩ := by rw [<- hB]; simp [p2]
 have hB3 : Bq 1000163000 = S.blk 1000163000 := by rw [<- hB]; simp
 have hBf : ∀ n, Lm n = false -> Bq n = S.blk n := by intro n hn; rw [<- hB]; simp [ne_of_Lm hn, Lm]
 have hbs : xs.length + bs.length = NL := by omega
 have hcl : listOf Bq 1 (.sl 1000107000 s2 1 xs.length bs.length) = some (bs.map iv) := by
   have e1 : (es.drop xs.length).take bs.length = bs.map iv := by
     have := congrArg (List.drop xs.length) htk
     rw [List.drop_take, List.map_append, List.drop_left' (by simp), show NL - xs.length = bs.length by omega] at this
     exact this
   simp [listOf, hB2, getB, e1, show xs.length + bs.length <= es.length by omega]
 let nv : AV := .agg [iv to, iv hd, .lst 1 (bs.map iv)]
 let n16 : AV := .acc 110052 (c0 + 16) 3 (m.notes.map Nt.av ++ [nv])
 let tbl : List (Nat × AV) := [(36, .ptr 84026 st 14 0 0), (37, .ptr 84026 st 14 0 0), (38, .ptr 84026 st 14 0 0), (39, .ptr 84026 st 14 0 12), (40, nt), (41, iv to), (42, iv hd), (43, .ptr 84026 st 14 0 0), (44, .ptr 84026 st 14 0 0), (45, .ptr 84026 st 14 0 11), (46, .sl 1000107000 s2 1 0 NL), (47, iv xs.length),
   (48, .sl 1000107000 s2 1 xs.length bs.length), (49, .lst 1 (bs.map iv)), (50, nv), (51, .acc 110051 (c0 + 15) 3 [nv]), (52, n16), (53, .ptr 84026 st 14 0 0), (54, .ptr 84026 st 14 0 12)]
 let M' : Option Blk := some ⟨st, 14, [.agg [.lst 2 (F.p.hs.map Hnd.av), .lst 4 (F.p.as.map Actr.av), .lst 3 (F.p.boot.map Nt.av), iv F.p.fuel, iv F.who, F.argv, r, .bool m.armed, iv F.d, iv F.s, iv F.o, .sl 1000107000 s2 1 0 NL, n16, iv m.pc]]⟩
 have hnd : (tbl.map (·.1)).Nodup := by simp [tbl]
 obtain ⟨I, hI⟩ : ∃ I : (Nat -> Bool) -> St -> Prop, ∀ D S', I D S' ↔ (SF tbl D S' /\ S'.t 0 = .ptr 84026 st 14 0 0 /\ S'.t 1 = iv hd /\ S'.t 5 = iv to /\ S'.t 6 = iv xs.length /\ c0 + 20 <= S'.clk /\ S'.blk = (if D 19 = true then upd Bq 84026 M' else Bq) /\
   (∀ n, Lm n = false -> S'.tok n = S.tok n) /\ S'.tok 110052 = (if D 16 = true then some ⟨c0 + 16, 3, 58⟩ else S.tok 110052)) := ⟨_, fun _ _ => Iff.rfl⟩
 have stp : ∀ (D : Nat -> Bool) (S' : St) (j d : Nat) (v : AV) (op : AOp) (st' : Nat) (wt : List (Nat × Option Tok)), tbl[j]? = some (d, v) -> j ≠ 16 -> j ≠ 19 -> 30 < d -> I D S' -> ex S'.t S'.blk S'.tok st' op = some { v := v, wt := wt } -> (wt = [] \/ ∃ t, wt = [(110051, t)]) -> stepV Tryz.prog st' ⟨some d, none, .op op⟩ S' (I (fun i => (i == j) || D i)) := by
   intro D S' j d v op st' wt hj n16 n19 hd30 hi he hwt
   obtain ⟨hsf, g0, g1, g5, g6, hc, hbk, htf, htn⟩ := (hI _ _).1 hi
   refine stepV_op _ he ((hI _ _).2 ⟨hsf.ins hnd hj (upd_same _ _ _) (fun y hy => upd_ne _ _ _ _ hy), (upd_ne _ _ _ _ (by omega)).trans g0, (upd_ne _ _ _ _ (by omega)).trans g1, (upd_ne _ _ _ _ (by omega)).trans g5, (upd_ne _ _ _ _ (by omega)).trans g6, hc, hbk.trans ?_, ?_, ?_⟩)
   . simp [show (19 == j) = false by simp; omega]
   . intro n hn
     rcases hwt with rfl | ⟨t, rfl⟩
     . exact htf n hn
     . show upd S'.tok 110051 t n = _
       rw [upd_out hn rfl]; exact htf n hn
   . simp only [show (16 == j) = false by simp; omega, Bool.false_or]
     rcases hwt with rfl | ⟨t, rfl⟩
     . exact htn
     . show upd S'.tok 110051 t 110052 = _
       rw [upd_ne _ _ _ _ (by simp)]; exact htn
 show regI _ _ _ _ _ _
 refine ⟨I, (hI _ _).2 ⟨SF.start _ _, by simp, by simp, by simp, by simp, Nat.le_refl _, by simp, fun n hn => rfl, by simp⟩, ?_, ?_⟩
 . rintro D S' j ai hj hDj hpre hcl' hi
   obtain ⟨hsf, g0, g1, g5, g6, hc, hbk, htf, htn⟩ := (hI _ _).1 hi
   have hbk0 : D j = false -> j <= 19 -> S'.blk = Bq := by
     intro _ hle
     have d19 : D 19 = false := by
       cases hx : D 19 with
       | false => rfl
       | true =>
         by_cases e : j = 19
         . subst e; rw [hDj] at hx; cases hx
         . have := hcl' 19 hx j (by simp; omega); rw [hDj] at this; cases this
     rw [hbk, if_neg (by rw [d19]; simp)]
   match j, hj, hDj, hpre with
   | 0, hj, hDj, hpre =>
     simp at hj; subst hj
     exact stp D S' 0 36 _ _ _ [] rfl (by simp) (by simp) (by simp) hi (by simp [g0]) (.inl rfl)
   | 1, hj, hDj, hpre =>
     simp at hj; subst hj
     exact stp D S' 1 37 _ _ _ [] rfl (by simp) (by simp) (by simp) hi (by simp [g0]) (.inl rfl)
   | 2, hj, hDj, hpre =>
     simp at hj hpre; subst hj
     exact stp D S' 2 38 _ _ _ [] rfl (by simp) (by simp) (by simp) hi (by simp [hsf 1 37 _ rfl hpre]) (.inl rfl)
   | 3, hj, hDj, hpre =>
     simp at hj hpre; subst hj
     exact stp D S' 3 39 _ _ _ [] rfl (by simp) (by simp) (by simp) hi (by simp [hsf 2 38 _ rfl hpre.1]) (.inl rfl)
   | 4, hj, hDj, hpre =>
     simp at hj hpre; subst hj
     have hq := hbk0 hDj (by omega)
     exact stp D S' 4 40 _ _ _ [] rfl (by simp) (by simp) (by simp) hi (by simp [hsf 3 39 _ rfl hpre.1, hq, hB1]) (.inl rfl)
   | 5, hj, hDj, hpre =>
     simp at hj; subst hj
     exact stp D S' 5 41 _ _ _ [] rfl (by simp) (by simp) (by simp) hi (by simp [g5]) (.inl rfl)
   | 6, hj, hDj, hpre =>
     simp at hj; subst hj
     exact stp D S' 6 42 _ _ _ [] rfl (by simp) (by simp) (by simp) hi (by simp [g1]) (.inl rfl)
   | 7, hj, hDj, hpre =>
     simp at hj; subst hj
     exact stp D S' 7 43 _ _ _ [] rfl (by simp) (by simp) (by simp) hi (by simp [g0]) (.inl rfl)
   | 8, hj, hDj, hpre =>
     simp at hj hpre; subst hj
     exact stp D S' 8 44 _ _ _ [] rfl (by simp) (by simp) (by simp) hi (by simp [hsf 7 43 _ rfl hpre]) (.inl rfl)
   | 9, hj, hDj, hpre =>
     simp at hj hpre; subst hj
     exact stp D S' 9 45 _ _ _ [] rfl (by simp) (by simp) (by simp) hi (by simp [hsf 8 44 _ rfl hpre.1]) (.inl rfl)
   | 10, hj, hDj, hpre =>
     simp at hj hpre; subst hj
     have hq := hbk0 hDj (by omega)
     exact stp D S' 10 46 _ _ _ [] rfl (by simp) (by simp) (by simp) hi (by simp [hsf 9 45 _ rfl hpre.1, hq, hB1]) (.inl rfl)
   | 11, hj, hDj, hpre =>
     simp at hj; subst hj
     exact stp D S' 11 47 _ _ _ [] rfl (by simp) (by simp) (by simp) hi (by simp [g6]) (.inl rfl)
   | 12, hj, hDj, hpre =>
     simp at hj hpre; subst hj
     exact stp D S' 12 48 _ _ _ [] rfl (by simp) (by simp) (by simp) hi (by simp [hsf 10 46 _ rfl hpre.1, hsf 11 47 _ rfl hpre.2.1, show xs.length <= NL by omega]; omega) (.inl rfl)
   | 13, hj, hDj, hpre =>
     simp at hj hpre; subst hj
     have hq := hbk0 hDj (by omega)
     refine stepV_call ?_
     simp [hsf 12 48 _ rfl hpre.1]
     refine clone_x _ _ _ _ bs (by rw [hq]; exact hcl) (by omega) ?_
     intro c hc'
     refine (hI _ _).2 ⟨hsf.ins hnd (j := 13) (d := 49) (v := .lst 1 (bs.map iv)) rfl (by simp) (fun y hy => by simp [hy]), by simp [g0], by simp [g1], by simp [g5], by simp [g6], by simp; omega, by simpa using hbk, ?_, by simpa using htn⟩
     intro n hn
     simp [ne_of_Lm hn, Lm]
     exact htf n hn
   | 14, hj, hDj, hpre =>
     simp at hj hpre; subst hj
     exact stp D S' 14 50 _ _ _ [] rfl (by simp) (by simp) (by simp) hi (by simp [hsf 5 41 _ rfl hpre.1, hsf 6 42 _ rfl hpre.2.1, hsf 13 49 _ rfl hpre.2.2.1, nv]) (.inl rfl)
   | 15, hj, hDj, hpre =>
     simp at hj hpre; subst hj
     exact stp D S' 15 51 _ _ _ [(110051, some ⟨c0 + 15, 3, 58⟩)] rfl (by simp) (by simp) (by simp) hi (by simp [hsf 14 50 _ rfl hpre.1, nv]) (.inr ⟨_, rfl⟩)
   | 16, hj, hDj, hpre =>
     simp at hj hpre; subst hj
     have t40 := hsf 4 40 _ rfl hpre.1
     have t51 := hsf 15 51 _ rfl hpre.2.1
     rw [if_neg (by rw [hDj]; simp)] at htn
     have fin : ∀ e : Eff, e.v = n16 -> e.wb = [] -> (e.wt = [(110052, some ⟨c0 + 16, 3, 58⟩)] \/ e.wt = [(110052, none), (110052, some ⟨c0 + 16, 3, 58⟩)]) -> I (fun i => (i == 16) || D i) (S'.app (some 52) e) := by
       rintro ⟨ev, ewb, ewt⟩ rfl rfl hw
       refine (hI _ _).2 ⟨hsf.ins hnd (j := 16) (d := 52) (v := n16) rfl (by rw [St.app_t, if_pos rfl]) (fun y hy => by rw [St.app_t, if_neg (by simp; omega)]), by rw [St.app_t, if_neg (by simp)]; exact g0, by rw [St.app_t, if_neg (by simp)]; exact g1, by rw [St.app_t, if_neg (by simp)]; exact g5, by rw [St.app_t, if_neg (by simp)]; exact g6, hc, hbk, ?_, ?_⟩
       . intro n hn
         rw [<- htf n hn]
         rcases hw with h | h <;> (simp only at h; subst h; show appT _ _ n = _; simp [ne_of_Lm hn, Lm])
       . rcases hw with h | h <;> (simp only at h; subst h; show appT _ _ 110052 = _; simp)
     rcases hn with ⟨rfl, hq⟩ | ⟨sn, rfl, hq⟩
     . exact stepV_op { v := n16, wt := [(110052, some ⟨c0 + 16, 3, 58⟩)] } (by simp [t40, t51, n16, hq, nv]) (fin _ rfl rfl (.inl rfl))
     . exact stepV_op { v := n16, wt := [(110052, none), (110052, some ⟨c0 + 16, 3, 58⟩)] } (by simp [t40, t51, htn, hq, n16, nv, show (m.notes.length + 1) * 40 <= 140737488355328 by omega]) (fin _ rfl rfl (.inr rfl))
   | 17, hj, hDj, hpre =>
     simp at hj hpre; subst hj
     exact stp D S' 17 53 _ _ _ [] rfl (by simp) (by simp) (by simp) hi (by simp [hsf 0 36 _ rfl hpre.1]) (.inl rfl)
   | 18, hj, hDj, hpre =>
     simp at hj hpre; subst hj
     exact stp D S' 18 54 _ _ _ [] rfl (by simp) (by simp) (by simp) hi (by simp [hsf 17 53 _ rfl hpre.1]) (.inl rfl)
   | 19, hj, hDj, hpre =>
     simp at hj hpre; subst hj
     have hq := hbk0 hDj (by omega)
     refine stepV_op { v := .junk, wb := [(84026, M')] } (by simp [hsf 18 54 _ rfl hpre.1, hsf 16 52 _ rfl hpre.2.1, hq, hB1, M', n16]) ?_
     refine (hI _ _).2 ⟨hsf.keep (j := 19) rfl rfl, g0, g1, g5, g6, hc, ?_, htf, ?_⟩
     . simp [St.app, appB, hq]
     . simpa using htn
   | j + 20, hj, hDj, hpre => simp at hj
 . rintro D S' hD hi
   obtain ⟨hsf, g0, g1, g5, g6, hc, hbk, htf, htn⟩ := (hI _ _).1 hi
   rw [if_pos (hD 19 (by simp))] at hbk
   rw [if_pos (hD 16 (by simp))] at htn
   have m1 : S'.blk 84026 = M' := by rw [hbk]; simp
   have m2 : S'.blk 1000163000 = S.blk 1000163000 := by rw [hbk]; simp [hB3]
   have m3 : S'.blk 1000107000 = some ⟨s2, 1, es⟩ := by rw [hbk]; simp [hB2]
   have m4 : ∀ n, Lm n = false -> S'.blk n = S.blk n := by intro n hn; rw [hbk]; simp [ne_of_Lm hn, Lm]; exact hBf n hn
   simp [g0, g6, m1, M', show xs.length <= NL by omega]
   refine hk2 hlost _ (Fr.here (fun n hn => by simp [ne_of_Lm hn, Lm]; exact m4 n hn) (fun n hn => htf n hn) (by omega)) (MS.mk' (upd_same _ _ _) ?_ ?_ ?_)
   . rcases hr with ⟨rfl, hq⟩ | ⟨sr, rfl, hq⟩
     . exact .inl ⟨rfl, hq⟩
     . exact .inr ⟨sr, rfl, by simp [m2, hq]⟩
   . refine .inr ⟨s2, es, rfl, by simp [m3], by simp only []; omega, ?_⟩
     have := congrArg (List.take xs.length) htk
     rw [List.take_take, Nat.min_eq_left (by omega), List.map_append, List.take_left' (by simp)] at this
     exact this
   . refine .inr ⟨c0 + 16, ?_, by simpa using htn⟩
     simp [n16, nv, Nt.av]
end Go.Gv
