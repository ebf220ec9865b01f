/- Texts of this proof, one behind the other. What is proved, and on which conditions, stands ahead of each. -/
import Derived.Test.YthidhohdcjojhaaGreatDoorM1492a58f
import Derived.IntWalk

set_option linter.unusedVariables false
set_option linter.unusedSimpArgs false
namespace Go.Gv
attribute [simp] guardV X.ev.eq_1 X.ev.eq_2 St.bump St.put.eq_1 St.put.eq_2 St.app appB.eq_1 appB.eq_2 appT.eq_1 appT.eq_2
@[simp] theorem intBin_add (k : IntKind) (a b : Int) : intBin .add k a b = some (.int k (k.wrap (a + b))) := rfl
@[simp] theorem intBin_sub (k : IntKind) (a b : Int) : intBin .sub k a b = some (.int k (k.wrap (a - b))) := rfl
@[simp] theorem intBin_mul (k : IntKind) (a b : Int) : intBin .mul k a b = some (.int k (k.wrap (a * b))) := rfl
@[simp] theorem intBin_quo (k : IntKind) (a b : Int) : intBin .quo k a b = if b = 0 then none else some (.int k (k.wrap (a.tdiv b))) := rfl
@[simp] theorem intBin_rem (k : IntKind) (a b : Int) : intBin .rem k a b = if b = 0 then none else some (.int k (a.tmod b)) := rfl
@[simp] theorem intBin_and (k : IntKind) (a b : Int) : intBin .and k a b = some (.int k (bitAnd k a b)) := rfl
@[simp] theorem intBin_or (k : IntKind) (a b : Int) : intBin .or k a b = some (.int k (bitOr k a b)) := rfl
@[simp] theorem intBin_xor (k : IntKind) (a b : Int) : intBin .xor k a b = some (.int k (bitXor k a b)) := rfl
@[simp] theorem intBin_andNot (k : IntKind) (a b : Int) : intBin .andNot k a b = some (.int k (bitAndNot k a b)) := rfl
@[simp] theorem intBin_lss (k : IntKind) (a b : Int) : intBin .lss k a b = some (.bool (decide (a < b))) := rfl
@[simp] theorem intBin_leq (k : IntKind) (a b : Int) : intBin .leq k a b = some (.bool (decide (a <= b))) := rfl
@[simp] theorem intBin_gtr (k : IntKind) (a b : Int) : intBin .gtr k a b = some (.bool (decide (a > b))) := rfl
@[simp] theorem intBin_geq (k : IntKind) (a b : Int) : intBin .geq k a b = some (.bool (decide (a >= b))) := rfl
@[simp] theorem intBin_eql (k : IntKind) (a b : Int) : intBin .eql k a b = some (.bool (decide (a = b))) := rfl
@[simp] theorem intBin_neq (k : IntKind) (a b : Int) : intBin .neq k a b = some (.bool (!decide (a = b))) := rfl
attribute [simp] resOf.eq_1 resL.eq_1 resL.eq_2 resOf1.eq_1 resOf1.eq_2 resOf1.eq_3 initS upd_lit
attribute [simp] ex.eq_1 ex.eq_2 ex.eq_3 ex.eq_4 ex.eq_5 ex.eq_6 ex.eq_7 ex.eq_8 ex.eq_9 ex.eq_10 ex.eq_11 ex.eq_12 ex.eq_13 ex.eq_14 ex.eq_15 ex.eq_16 ex.eq_17 ex.eq_18 ex.eq_19 ex.eq_20 ex.eq_21 ex.eq_22 ex.eq_23 ex.eq_24 ex.eq_25 ex.eq_26 ex.eq_27 ex.eq_28 ex.eq_29 ex.eq_30 ex.eq_31 ex.eq_32 ex.eq_33 ex.eq_34
attribute [simp] ldOne ldAgg getB setCells.eq_1 fillA.eq_1 fillA.eq_2 optNat.eq_1 optNat.eq_2
@[simp] theorem undB_nilq (f : Nat -> AV) (neg : Bool) (x : X) : undB f (.nilq 0 neg x) = undV (x.ev f) := rfl
@[simp] theorem undB_nilq1 (f : Nat -> AV) (k : Nat) (neg : Bool) (x : X) : undB f (.nilq (k + 1) neg x) = false := rfl
attribute [simp] undV
section
variable {k : IntKind} {n : Int} {b : Bool} {cs xs : List AV} {s : ByteArray} {nm st sz i off len : Nat} {f : FuncId}
@[simp] theorem ends_normal (al : List ARes) (r : AV) (S : St) : Ends al r .normal S = ∃ v, resOf S al = some v /\ coT (some S.blk) v r := rfl
@[simp] theorem ends_ret (al : List ARes) (r : AV) (S : St) : Ends al r .ret S = ∃ v, resOf S al = some v /\ coT (some S.blk) v r := rfl
@[simp] theorem ends_exit (al : List ARes) (r : AV) (S : St) (i : Nat) : Ends al r (.exit i) S = False := rfl
@[simp] theorem lp_normal (κ : Ex -> St -> Prop) (J : St -> Prop) (S : St) : Lp κ J .normal S = J S := rfl
@[simp] theorem lp_exit (κ : Ex -> St -> Prop) (J : St -> Prop) (i : Nat) (S : St) : Lp κ J (.exit i) S = κ (.exit i) S := rfl
@[simp] theorem lp_ret (κ : Ex -> St -> Prop) (J : St -> Prop) (S : St) : Lp κ J .ret S = κ .ret S := rfl
@[simp] theorem cells_agg : (AV.agg cs).cells = cs := rfl
@[simp] theorem cells_int : (AV.int k n).cells = [.int k n] := rfl
@[simp] theorem cells_bool : (AV.bool b).cells = [.bool b] := rfl
@[simp] theorem cells_str : (AV.str s).cells = [.str s] := rfl
@[simp] theorem cells_nils : AV.nils.cells = [.nils] := rfl
@[simp] theorem cells_nilp : AV.nilp.cells = [.nilp] := rfl
@[simp] theorem cells_nilf : AV.nilf.cells = [.nilf] := rfl
@[simp] theorem cells_lst : (AV.lst sz xs).cells = [.lst sz xs] := rfl
@[simp] theorem cells_acc : (AV.acc nm st sz xs).cells = [.acc nm st sz xs] := rfl
@[simp] theorem cells_sl : (AV.sl nm st sz off len).cells = [.sl nm st sz off len] := rfl
@[simp] theorem cells_ptr : (AV.ptr nm st sz i off).cells = [.ptr nm st sz i off] := rfl
@[simp] theorem cells_kp : (AV.kp cs off).cells = [.kp cs off] := rfl
@[simp] theorem cells_fn : (AV.fn f cs).cells = [.fn f cs] := rfl
@[simp] theorem one_int : (AV.int k n).one = true := rfl
@[simp] theorem one_bool : (AV.bool b).one = true := rfl
@[simp] theorem one_str : (AV.str s).one = true := rfl
@[simp] theorem one_nils : AV.nils.one = true := rfl
@[simp] theorem one_nilp : AV.nilp.one = true := rfl
@[simp] theorem one_nilf : AV.nilf.one = true := rfl
@[simp] theorem one_lst : (AV.lst sz xs).one = true := rfl
@[simp] theorem one_acc : (AV.acc nm st sz xs).one = true := rfl
@[simp] theorem one_sl : (AV.sl nm st sz off len).one = true := rfl
@[simp] theorem one_ptr : (AV.ptr nm st sz i off).one = true := rfl
@[simp] theorem one_kp : (AV.kp cs off).one = true := rfl
@[simp] theorem one_fn : (AV.fn f cs).one = true := rfl
@[simp] theorem cl1_int : (AV.int k n).cl1 = true := rfl
@[simp] theorem cl1_bool : (AV.bool b).cl1 = true := rfl
@[simp] theorem cl1_str : (AV.str s).cl1 = true := rfl
@[simp] theorem cl1_nils : AV.nils.cl1 = true := rfl
@[simp] theorem cl1_nilp : AV.nilp.cl1 = true := rfl
@[simp] theorem cl1_nilf : AV.nilf.cl1 = true := rfl
@[simp] theorem cl1_lst : (AV.lst sz xs).cl1 = true := rfl
@[simp] theorem cl1_acc : (AV.acc nm st sz xs).cl1 = false := rfl
@[simp] theorem cl1_sl : (AV.sl nm st sz off len).cl1 = false := rfl
@[simp] theorem cl1_kp : (AV.kp cs off).cl1 = true := rfl
@[simp] theorem norm1_int : norm1 (AV.int k n) = AV.int k n := rfl
@[simp] theorem norm1_bool : norm1 (AV.bool b) = .bool b := rfl
@[simp] theorem norm1_str : norm1 (AV.str s) = .str s := rfl
@[simp] theorem norm1_nils : norm1 AV.nils = .nils := rfl
@[simp] theorem norm1_lst : norm1 (AV.lst sz xs) = .lst sz xs := rfl
@[simp] theorem norm1_acc : norm1 (AV.acc nm st sz xs) = .lst sz xs := rfl
@[simp] theorem norm1_sl : norm1 (AV.sl nm st sz off len) = .sl nm st sz off len := rfl
@[simp] theorem normE_agg : normE (AV.agg cs) = .agg (cs.map norm1) := rfl
@[simp] theorem normE_int : normE (AV.int k n) = AV.int k n := rfl
@[simp] theorem normE_bool : normE (AV.bool b) = .bool b := rfl
@[simp] theorem normE_str : normE (AV.str s) = .str s := rfl
@[simp] theorem normE_lst : normE (AV.lst sz xs) = .lst sz xs := rfl
@[simp] theorem normE_acc : normE (AV.acc nm st sz xs) = .lst sz xs := rfl
@[simp] theorem normE_nils : normE AV.nils = .nils := rfl
@[simp] theorem asNat_iv : asNat (AV.int k n) = if 0 <= n then some n.toNat else none := rfl
@[simp] theorem lenOf_nils : lenOf .nils = some 0 := rfl
@[simp] theorem lenOf_lst : lenOf (.lst sz xs) = some xs.length := rfl
@[simp] theorem lenOf_acc : lenOf (.acc nm st sz xs) = some xs.length := rfl
@[simp] theorem lenOf_sl : lenOf (.sl nm st sz off len) = some len := rfl
variable {blk : Nat -> Option Blk} {tok : Nat -> Option Tok} {s' : Nat} {ty : TypeId}
@[simp] theorem cellsAt_ptr : cellsAt blk (.ptr nm st sz i off) = (getB blk nm st sz).bind fun es => (es[i]?).map fun x => (x.cells, off) := rfl
@[simp] theorem cellsAt_kp : cellsAt blk (.kp cs off) = some (cs, off) := rfl
@[simp] theorem listOf_nils : listOf blk sz .nils = some [] := rfl
@[simp] theorem listOf_lst : listOf blk sz (.lst s' xs) = if s' = sz then some xs else none := rfl
@[simp] theorem listOf_acc : listOf blk sz (.acc nm st s' xs) = if s' = sz then some xs else none := rfl
theorem listOf_sl : listOf blk sz (.sl nm st s' off len) = if s' = sz then (getB blk nm st s').bind fun es => if off + len <= es.length /\ (((es.drop off).take len).all fun x => x.cells.all AV.cl1) = true then some ((es.drop off).take len) else none else none := rfl
@[simp] theorem listM_nils : listM blk sz .nils = some [] := rfl
@[simp] theorem listM_lst : listM blk sz (.lst s' xs) = if s' = sz then some xs else none := rfl
@[simp] theorem listM_acc : listM blk sz (.acc nm st s' xs) = if s' = sz then some xs else none := rfl
@[simp] theorem listM_sl : listM blk sz (.sl nm st s' off len) = if s' = sz then (getB blk nm st s').bind fun es => if off + len <= es.length then some ((es.drop off).take len) else none else none := rfl
@[simp] theorem appwBase_nils : appwBase blk sz .nils = some ([], none) := rfl
@[simp] theorem appwBase_sl : appwBase blk sz (.sl nm st s' off len) = if s' = sz then (getB blk nm st s').bind fun es => if off + len <= es.length then some ((es.drop off).take len, some nm) else none else none := rfl
@[simp] theorem nilA_nils : nilA 0 .nils = some true := rfl
@[simp] theorem nilA_nilp : nilA 1 .nilp = some true := rfl
@[simp] theorem nilA_nilf : nilA 2 .nilf = some true := rfl
@[simp] theorem nilA_ptr : nilA 1 (.ptr nm st sz i off) = some false := rfl
@[simp] theorem nilA_kp : nilA 1 (.kp cs off) = some false := rfl
@[simp] theorem nilA_fn : nilA 2 (.fn f cs) = some false := rfl
@[simp] theorem nilA_cons {x : AV} : nilA 0 (.lst sz (x :: xs)) = some false := rfl
@[simp] theorem nilA_acc {x : AV} : nilA 0 (.acc nm st sz (x :: xs)) = some false := rfl
@[simp] theorem nilA_sl : nilA 0 (.sl nm st sz off len) = if 0 < len then some false else none := rfl
@[simp] theorem appBase_nils : appBase tok sz ty .nils = some ([], none) := rfl
@[simp] theorem appBase_acc : appBase tok sz ty (.acc nm st s' xs) = match tok nm with
   | some t => if t.st = st /\ t.sz = sz /\ s' = sz /\ t.ty = ty then some (xs, some nm) else none
   | none => none := rfl
@[simp] theorem idxA_lst : idxA blk sz (.lst s' xs) i = if s' = sz then (xs[i]?).map fun x => .kp x.cells 0 else none := rfl
@[simp] theorem idxA_acc : idxA blk sz (.acc nm st s' xs) i = if s' = sz then (xs[i]?).map fun x => .kp x.cells 0 else none := rfl
@[simp] theorem idxA_sl {j : Nat} : idxA blk sz (.sl nm st s' off len) j = if s' = sz /\ j < len then some (.ptr nm st s' (off + j) 0) else none := rfl
variable {k' : IntKind} {n' : Int} {b' : Bool} {cs' xs' : List AV} {t t' : ByteArray} {B : Option (Nat -> Option Blk)} {g : FuncId}
@[simp] theorem eq1_int : eq1 false (.int k n) (.int k' n') = if k = k' then some (decide (n = n')) else none := rfl
@[simp] theorem eq1_bool : eq1 true (.bool b) (.bool b') = some (b == b') := rfl
@[simp] theorem co1_int : co1 B (.int k n) (.int k' n') = (k = k' /\ n = n') := rfl
@[simp] theorem co1_bool : co1 B (.bool b) (.bool b') = (b = b') := rfl
@[simp] theorem co1_str : co1 B (.str t) (.str t') = (t = t') := rfl
@[simp] theorem co1_nils : co1 B .nils .nils = True := rfl
@[simp] theorem co1_nilp : co1 B .nilp .nilp = True := rfl
@[simp] theorem co1_nilf : co1 B .nilf .nilf = True := rfl
@[simp] theorem co1_nils_lst : co1 B .nils (.lst s' xs) = (xs = []) := rfl
@[simp] theorem co1_lst : co1 B (.lst sz xs) (.lst s' xs') = (sz = s' /\ xs = xs') := rfl
@[simp] theorem co1_acc : co1 B (.acc nm st sz xs) (.lst s' xs') = (sz = s' /\ xs = xs') := rfl
@[simp] theorem co1_sl : co1 (some blk) (.sl nm st sz off len) (.lst s' xs') = (sz = s' /\ listOf blk sz (.sl nm st sz off len) = some xs') := rfl
@[simp] theorem co1_fn : co1 B (.fn f []) (.fn g []) = (f = g) := rfl
@[simp] theorem coL_nil {R : AV -> AV -> Prop} : coL R [] [] = True := rfl
@[simp] theorem coL_cons {R : AV -> AV -> Prop} {x y : AV} {xs ys : List AV} : coL R (x :: xs) (y :: ys) = (R x y /\ coL R xs ys) := rfl
@[simp] theorem co_agg : co B (.agg cs) (.agg cs') = coL (co1 B) cs cs' := rfl
@[simp] theorem coT_tup : coT B (.tup cs) (.tup cs') = coL (co B) cs cs' := rfl
@[simp] theorem coT_agg : coT B (.agg cs) (.agg cs') = coL (co1 B) cs cs' := rfl
@[simp] theorem co_int {y : AV} : co B (.int k n) y = co1 B (.int k n) y := by cases y <;> rfl
@[simp] theorem co_bool {y : AV} : co B (.bool b) y = co1 B (.bool b) y := by cases y <;> rfl
@[simp] theorem co_str {y : AV} : co B (.str t) y = co1 B (.str t) y := by cases y <;> rfl
@[simp] theorem co_nils {y : AV} : co B .nils y = co1 B .nils y := by cases y <;> rfl
@[simp] theorem co_lst {y : AV} : co B (.lst sz xs) y = co1 B (.lst sz xs) y := by cases y <;> rfl
@[simp] theorem co_acc {y : AV} : co B (.acc nm st sz xs) y = co1 B (.acc nm st sz xs) y := by cases y <;> rfl
@[simp] theorem co_sl {y : AV} : co B (.sl nm st sz off len) y = co1 B (.sl nm st sz off len) y := by cases y <;> rfl
@[simp] theorem co_fn {y : AV} : co B (.fn f cs) y = co1 B (.fn f cs) y := by cases y <;> rfl
@[simp] theorem coT_int {y : AV} : coT B (.int k n) y = co1 B (.int k n) y := by cases y <;> rfl
@[simp] theorem coT_bool {y : AV} : coT B (.bool b) y = co1 B (.bool b) y := by cases y <;> rfl
@[simp] theorem coT_str {y : AV} : coT B (.str t) y = co1 B (.str t) y := by cases y <;> rfl
@[simp] theorem coT_nils {y : AV} : coT B .nils y = co1 B .nils y := by cases y <;> rfl
@[simp] theorem coT_lst {y : AV} : coT B (.lst sz xs) y = co1 B (.lst sz xs) y := by cases y <;> rfl
@[simp] theorem coT_acc {y : AV} : coT B (.acc nm st sz xs) y = co1 B (.acc nm st sz xs) y := by cases y <;> rfl
@[simp] theorem coT_sl {y : AV} : coT B (.sl nm st sz off len) y = co1 B (.sl nm st sz off len) y := by cases y <;> rfl
@[simp] theorem coT_fn {y : AV} : coT B (.fn f cs) y = co1 B (.fn f cs) y := by cases y <;> rfl
end
abbrev iv (n : Int) : AV := .int .i64 n
abbrev ints (l : List Int) : AV := .lst 1 (l.map iv)
structure Ins where
 op : Int
 a : Int
deriving DecidableEq
structure Hnd where
 args : Int
 code : List Ins
deriving DecidableEq
structure Actr where
 regs : List Int
 cap : Int
 timer : Int
 armed : Bool
deriving DecidableEq
structure Nt where
 to : Int
 hd : Int
 args : List Int
deriving DecidableEq
structure Prg where
 hs : List Hnd
 as : List Actr
 boot : List Nt
 fuel : Int
deriving DecidableEq
@[simp] def Ins.av (i : Ins) : AV := .agg [iv i.op, iv i.a]
@[simp] def Hnd.av (h : Hnd) : AV := .agg [iv h.args, .lst 2 (h.code.map Ins.av)]
@[simp] def Actr.av (a : Actr) : AV := .agg [ints a.regs, iv a.cap, iv a.timer, .bool a.armed]
@[simp] def Nt.av (n : Nt) : AV := .agg [iv n.to, iv n.hd, ints n.args]
@[simp] def Prg.av (p : Prg) : AV := .agg [.lst 2 (p.hs.map Hnd.av), .lst 4 (p.as.map Actr.av), .lst 3 (p.boot.map Nt.av), iv p.fuel]
@[simp] theorem eqL_ii (k k' : IntKind) (a b c d : Int) : eqL [false, false] [.int k a, .int k' b] [.int k c, .int k' d] = some (decide (a = c) && decide (b = d)) := by
 by_cases h : a = c <;> by_cases h' : b = d <;> simp [eqL, h, h']
@[simp] theorem eqL_iii (k k' k'' : IntKind) (a b c d e f : Int) : eqL [false, false, false] [.int k a, .int k' b, .int k'' e] [.int k c, .int k' d, .int k'' f] = some (decide (a = c) && (decide (b = d) && decide (e = f))) := by
 by_cases h : a = c <;> by_cases h' : b = d <;> by_cases h'' : e = f <;> simp [eqL, h, h', h'']
theorem wrap_in (n : Int) (h1 : -9223372036854775808 <= n) (h2 : n <= 9223372036854775807) : IntKind.i64.wrap n = n := IntWalk.i64_in n ⟨h1, h2⟩
theorem wrap_succ (i n : Nat) (h : i < n) (hn : n < 4611686018427387904) : IntKind.i64.wrap ((i : Int) + 1) = ((i + 1 : Nat) : Int) := by
 rw [wrap_in _ (by omega) (by omega)]; rfl
end Go.Gv

namespace Go.Gv
def chk (pre : List Nat) (log : List (AI × Fp)) (i : AI) (fp : Fp) : Bool := log.zipIdx.all fun p => pre.contains p.2 || apartI p.1.1 i p.1.2 fp
inductive Dep {α : Type} (a : α) : Type where
 | mk
inductive Dep2 (p q : Prop) : Type where
 | mk
def condG (b : Bool) (p q : Prop) (u : Dep2 p q) : Prop := if b = true then p else q
@[simp] theorem condG_true (p q : Prop) (u : Dep2 p q) : condG true p q u = p := by simp [condG]
@[simp] theorem condG_false (p q : Prop) (u : Dep2 p q) : condG false p q u = q := by simp [condG]
@[simp] theorem condG_not (b : Bool) (p q : Prop) (u : Dep2 p q) : condG (!b) p q u = condG b q p .mk := by cases b <;> simp
@[simp] theorem condG_and (a b : Bool) (p q : Prop) (u : Dep2 p q) : condG (a && b) p q u = condG a (condG b p q .mk) q .mk := by cases a <;> simp
@[simp] theorem condG_or (a b : Bool) (p q : Prop) (u : Dep2 p q) : condG (a || b) p q u = condG a p (condG b p q .mk) .mk := by cases a <;> simp
theorem split {P p q : Prop} {d : Decidable P} {u : Dep2 p q} (h1 : P -> p) (h2 : ¬ P -> q) : condG (decide P) p q u := by
 by_cases h : P
 . simpa [h] using h1 h
 . simpa [h] using h2 h
def condA (v : AV) (p q : Prop) (u : Dep2 p q) : Prop := match v with
 | .bool b => condG b p q .mk
 | _ => False
@[simp] theorem condA_bool (b : Bool) (p q : Prop) (u : Dep2 p q) : condA (.bool b) p q u = condG b p q .mk := rfl
def guardG (v : Option Bool) (p q : Prop) (u : Dep2 p q) : Prop := match v with
 | some b => condG b p q .mk
 | none => False
@[simp] theorem guardG_some (b : Bool) (p q : Prop) (u : Dep2 p q) : guardG (some b) p q u = condG b p q .mk := rfl
def optG {α : Type} (o : Option α) (k : α -> Prop) (u : Dep k) : Prop := match o with
 | some e => k e
 | none => False
@[simp] theorem optG_some {α : Type} (e : α) (k : α -> Prop) (u : Dep k) : optG (some e) k u = k e := rfl
def opG (o : Option Eff) (b : Bool) (k : Eff -> Prop) (u : Dep k) : Prop := match o with
 | some e => k e
 | none => b = true /\ ∀ b : Bool, k { v := .bool b }
@[simp] theorem opG_false (o : Option Eff) (k : Eff -> Prop) (u : Dep k) : opG o false k u = optG o k .mk := by cases o <;> simp [opG, optG]
@[simp] theorem opG_some (e : Eff) (b : Bool) (k : Eff -> Prop) (u : Dep k) : opG (some e) b k u = k e := rfl
theorem opG_none (k : Eff -> Prop) (u : Dep k) (h1 : k { v := .bool true }) (h2 : k { v := .bool false }) : opG none true k u := ⟨rfl, fun b => by cases b <;> assumption⟩
def CallG (P : Program) (fv : AV) (vals : List AV) (S : St) (k : AV -> St -> Prop) (u : Dep k) : Prop := CallP P fv vals S k
theorem call {P : Program} {f : FuncId} {cargs : List AV} {r : AV} (h : PC P f cargs r) {caps vals : List AV} {S : St} {k : AV -> St -> Prop} {u : Dep k} (hco : coL (co none) (vals ++ caps) cargs) (hk : k r S) : CallG P (.fn f caps) vals S k u :=
 call_of_pc h hco hk
def callD (P : Program) (fv : AV) (vals : List AV) (blk : Nat -> Option Blk) (k : Eff -> Prop) (u : Dep k) : Prop := ∃ e, LCallP P fv vals blk e /\ k e
theorem calld {P : Program} {f : FuncId} {cargs : List AV} {r : AV} (h : PC P f cargs r) {caps vals : List AV} {blk : Nat -> Option Blk} {k : Eff -> Prop} {u : Dep k} (hco : coL (co none) (vals ++ caps) cargs) (hk : k ⟨r, [], []⟩) : callD P (.fn f caps) vals blk k u :=
 ⟨_, .pure (pcall_of_pc h hco) blk, hk⟩
def LoopG (P : Program) (a : AC) (κ : Ex -> St -> Prop) (S : St) (u : Dep κ) : Prop := V P (.loop a) κ S
def regG (P : Program) (st : Nat) (l : List AI) (S : St) (k : St -> Prop) (u : Dep k) : Prop := regV P st l k S
def regDG (P : Program) (pre : List (List Nat)) (st j : Nat) (l : List AI) (log : List (AI × Fp)) (S : St) (k : St -> Prop) (u : Dep k) : Prop := regDV P pre st j l log k S
def seqK (P : Program) (b : AC) (κ : Ex -> St -> Prop) : Ex -> St -> Prop
 | .normal, S => V P b κ S
 | .exit i, S => κ (.exit i) S
 | .ret, S => κ .ret S
def blockK (id : Nat) (κ : Ex -> St -> Prop) : Ex -> St -> Prop
 | .normal, S => κ .normal S
 | .exit i, S => if i = id then κ .normal S else κ (.exit i) S
 | .ret, S => κ .ret S
@[simp ↓] theorem seqK_normal (P : Program) (b : AC) (κ : Ex -> St -> Prop) (S : St) : seqK P b κ .normal S = V P b κ S := rfl
@[simp ↓] theorem seqK_exit (P : Program) (b : AC) (κ : Ex -> St -> Prop) (i : Nat) (S : St) : seqK P b κ (.exit i) S = κ (.exit i) S := rfl
@[simp ↓] theorem seqK_ret (P : Program) (b : AC) (κ : Ex -> St -> Prop) (S : St) : seqK P b κ .ret S = κ .ret S := rfl
@[simp ↓] theorem blockK_normal (id : Nat) (κ : Ex -> St -> Prop) (S : St) : blockK id κ .normal S = κ .normal S := rfl
@[simp ↓] theorem blockK_exit (id : Nat) (κ : Ex -> St -> Prop) (i : Nat) (S : St) : blockK id κ (.exit i) S = condG (decide (i = id)) (κ .normal S) (κ (.exit i) S) .mk := by simp [blockK, condG]
@[simp ↓] theorem blockK_ret (id : Nat) (κ : Ex -> St -> Prop) (S : St) : blockK id κ .ret S = κ .ret S := rfl
@[simp ↓] theorem V_skip (P : Program) (κ : Ex -> St -> Prop) (S : St) : V P .skip κ S = κ .normal S := rfl
@[simp ↓] theorem V_exit (P : Program) (i : Nat) (κ : Ex -> St -> Prop) (S : St) : V P (.exit i) κ S = κ (.exit i) S := rfl
@[simp ↓] theorem V_ret (P : Program) (κ : Ex -> St -> Prop) (S : St) : V P .ret κ S = κ .ret S := rfl
@[simp ↓] theorem V_seq (P : Program) (a b : AC) (κ : Ex -> St -> Prop) (S : St) : V P (.seq a b) κ S = V P a (seqK P b κ) S := by
 refine congrArg (fun κ => V P a κ S) ?_
 funext e S; cases e <;> rfl
@[simp ↓] theorem V_block (P : Program) (id : Nat) (a : AC) (κ : Ex -> St -> Prop) (S : St) : V P (.block id a) κ S = V P a (blockK id κ) S := by
 refine congrArg (fun κ => V P a κ S) ?_
 funext e S; cases e <;> rfl
@[simp ↓] theorem V_condG (P : Program) (c : X) (a b : AC) (κ : Ex -> St -> Prop) (S : St) : V P (.cond c a b) κ S = condA (c.ev S.t) (V P a κ S) (V P b κ S) .mk := by
 simp only [V, condA, condG] <;> cases c.ev S.t <;> rfl
@[simp ↓] theorem V_loopG (P : Program) (a : AC) (κ : Ex -> St -> Prop) (S : St) : V P (.loop a) κ S = LoopG P a κ S .mk := rfl
@[simp ↓] theorem V_regG (P : Program) (ops : List AI) (κ : Ex -> St -> Prop) (S : St) : V P (.reg ops) κ S = regG P S.clk ops (S.bump ops.length) (κ .normal) .mk := rfl
@[simp ↓] theorem V_regdG (P : Program) (ops : List AI) (pre : List (List Nat)) (κ : Ex -> St -> Prop) (S : St) : V P (.regd ops pre) κ S = regDG P pre S.clk 0 ops [] (S.bump ops.length) (κ .normal) .mk := rfl
def GhG (P : Program) (a : AC) (κ : Ex -> St -> Prop) (S : St) (u : Dep κ) : Prop := ∃ S', Wk S S' /\ V P a κ S'
def regIG (P : Program) (pre : List (List Nat)) (st : Nat) (ops : List AI) (S : St) (k : St -> Prop) (u : Dep k) : Prop := regI P pre st ops k S
@[simp ↓] theorem V_regiG (P : Program) (ops : List AI) (pre : List (List Nat)) (κ : Ex -> St -> Prop) (S : St) : V P (.regi ops pre) κ S = regIG P pre S.clk ops (S.bump ops.length) (κ .normal) .mk := rfl
@[simp ↓] theorem V_ghG (P : Program) (a : AC) (κ : Ex -> St -> Prop) (S : St) : V P (.gh a) κ S = GhG P a κ S .mk := rfl
theorem ghost {P : Program} {a : AC} {κ : Ex -> St -> Prop} {S : St} {u : Dep κ} (S' : St) (h : Wk S S') (hv : V P a κ S') : GhG P a κ S u := ⟨S', h, hv⟩
@[simp] theorem regG_nil (P : Program) (st : Nat) (S : St) (k : St -> Prop) (u : Dep k) : regG P st [] S k u = k S := rfl
theorem stepV_none (P : Program) (st : Nat) (d : Option Nat) (x : AK) (S : St) (k : St -> Prop) : stepV P st ⟨d, none, x⟩ S k = runV P st ⟨d, none, x⟩ S k := by simp [stepV, guardV]
@[simp] theorem regG_op (P : Program) (st : Nat) (d : Option Nat) (o : AOp) (l : List AI) (S : St) (k : St -> Prop) (u : Dep k) :
   regG P st (⟨d, none, .op o⟩ :: l) S k u = optG (ex S.t S.blk S.tok st o) (fun e => regG P (st + 1) l (S.app d e) k .mk) .mk := by
 simp only [regG, regV, stepV_none, runV, optG]
 cases ex S.t S.blk S.tok st o <;> rfl
@[simp] theorem regG_nq (P : Program) (st : Nat) (d : Option Nat) (kd : Nat) (neg : Bool) (x : X) (l : List AI) (S : St) (k : St -> Prop) (u : Dep k) :
   regG P st (⟨d, none, .nq kd neg x⟩ :: l) S k u = opG (ex S.t S.blk S.tok st (.nilq kd neg x)) (undB S.t (.nilq kd neg x)) (fun e => regG P (st + 1) l (S.app d e) k .mk) .mk := by
 simp only [regG, regV, stepV_none, runV, opG]
 cases ex S.t S.blk S.tok st (.nilq kd neg x) <;> rfl
@[simp] theorem regG_call (P : Program) (st : Nat) (d : Option Nat) (f : X) (args : List X) (l : List AI) (S : St) (k : St -> Prop) (u : Dep k) :
   regG P st (⟨d, none, .call f args⟩ :: l) S k u = CallG P (f.ev S.t) (args.map fun x => x.ev S.t) S (fun r S' => regG P (st + 1) l (S'.put d r) k .mk) .mk := by
 simp only [regG, regV, stepV_none]
 rfl
@[simp] theorem regG_guard (P : Program) (st : Nat) (d : Option Nat) (g : Nat × Bool) (o : AK) (l : List AI) (S : St) (k : St -> Prop) (u : Dep k) :
   regG P st (⟨d, some g, o⟩ :: l) S k u = guardG (guardV S.t (some g)) (regG P st (⟨d, none, o⟩ :: l) S k .mk) (regG P (st + 1) l (S.put d (.tup [])) k .mk) .mk := by
 simp only [regG, regV, stepV, runV, guardG, condG]
 cases guardV S.t (some g) <;> simp [guardV]
@[simp] theorem regDG_nil (P : Program) (pre : List (List Nat)) (st j : Nat) (log : List (AI × Fp)) (S : St) (k : St -> Prop) (u : Dep k) : regDG P pre st j [] log S k u = k S := rfl
@[simp] theorem regDG_op (P : Program) (pre : List (List Nat)) (st j : Nat) (d : Option Nat) (o : AOp) (l : List AI) (log : List (AI × Fp)) (S : St) (k : St -> Prop) (u : Dep k) :
   regDG P pre st j (⟨d, none, .op o⟩ :: l) log S k u = optG (ex S.t S.blk S.tok st o) (fun e =>
     condG (chk (pre.getD j []) log ⟨d, none, .op o⟩ (fpOf S.t ⟨d, none, .op o⟩ e)) (regDG P pre (st + 1) (j + 1) l (log ++ [(⟨d, none, .op o⟩, fpOf S.t ⟨d, none, .op o⟩ e)]) (S.app d e) k .mk) False .mk) .mk := by
 apply propext
 constructor
 . rintro ⟨e, h1, h2, h3⟩
   have : ex S.t S.blk S.tok st o = some e := h1
   rw [this]
   have h2 : chk (pre.getD j []) log ⟨d, none, .op o⟩ (fpOf S.t ⟨d, none, .op o⟩ e) = true := h2
   simp only [optG, h2, condG_true]
   exact h3
 . intro h
   cases hx : ex S.t S.blk S.tok st o with
   | none => rw [hx] at h; exact h.elim
   | some e =>
     rw [hx] at h
     cases hc : chk (pre.getD j []) log ⟨d, none, .op o⟩ (fpOf S.t ⟨d, none, .op o⟩ e) with
     | true => simp only [optG, hc, condG_true] at h; exact ⟨e, hx, hc, h⟩
     | false => simp only [optG, hc, condG_false] at h
@[simp] theorem regDG_nq (P : Program) (pre : List (List Nat)) (st j : Nat) (d : Option Nat) (kd : Nat) (neg : Bool) (x : X) (l : List AI) (log : List (AI × Fp)) (S : St) (k : St -> Prop) (u : Dep k) :
   regDG P pre st j (⟨d, none, .nq kd neg x⟩ :: l) log S k u = optG (ex S.t S.blk S.tok st (.nilq kd neg x)) (fun e =>
     condG (chk (pre.getD j []) log ⟨d, none, .nq kd neg x⟩ (fpOf S.t ⟨d, none, .nq kd neg x⟩ e)) (regDG P pre (st + 1) (j + 1) l (log ++ [(⟨d, none, .nq kd neg x⟩, fpOf S.t ⟨d, none, .nq kd neg x⟩ e)]) (S.app d e) k .mk) False .mk) .mk := by
 apply propext
 constructor
 . rintro ⟨e, h1, h2, h3⟩
   have : ex S.t S.blk S.tok st (.nilq kd neg x) = some e := h1
   rw [this]
   have h2 : chk (pre.getD j []) log ⟨d, none, .nq kd neg x⟩ (fpOf S.t ⟨d, none, .nq kd neg x⟩ e) = true := h2
   simp only [optG, h2, condG_true]
   exact h3
 . intro h
   cases hx : ex S.t S.blk S.tok st (.nilq kd neg x) with
   | none => rw [hx] at h; exact h.elim
   | some e =>
     rw [hx] at h
     cases hc : chk (pre.getD j []) log ⟨d, none, .nq kd neg x⟩ (fpOf S.t ⟨d, none, .nq kd neg x⟩ e) with
     | true => simp only [optG, hc, condG_true] at h; exact ⟨e, hx, hc, h⟩
     | false => simp only [optG, hc, condG_false] at h
@[simp] theorem regDG_call (P : Program) (pre : List (List Nat)) (st j : Nat) (d : Option Nat) (f : X) (args : List X) (l : List AI) (log : List (AI × Fp)) (S : St) (k : St -> Prop) (u : Dep k) :
   regDG P pre st j (⟨d, none, .call f args⟩ :: l) log S k u = callD P (f.ev S.t) (args.map fun x => x.ev S.t) S.blk (fun e =>
     condG (chk (pre.getD j []) log ⟨d, none, .call f args⟩ (fpOf S.t ⟨d, none, .call f args⟩ e)) (regDG P pre (st + 1) (j + 1) l (log ++ [(⟨d, none, .call f args⟩, fpOf S.t ⟨d, none, .call f args⟩ e)]) (S.app d e) k .mk) False .mk) .mk := by
 apply propext
 constructor
 . rintro ⟨e, h1, h2, h3⟩
   refine ⟨e, h1, ?_⟩
   have h2 : chk (pre.getD j []) log ⟨d, none, .call f args⟩ (fpOf S.t ⟨d, none, .call f args⟩ e) = true := h2
   simp only [h2, condG_true]
   exact h3
 . rintro ⟨e, h1, h⟩
   cases hc : chk (pre.getD j []) log ⟨d, none, .call f args⟩ (fpOf S.t ⟨d, none, .call f args⟩ e) with
   | true => simp only [hc, condG_true] at h; exact ⟨e, h1, hc, h⟩
   | false => simp only [hc, condG_false] at h
@[simp] theorem regDG_gop (P : Program) (pre : List (List Nat)) (st j : Nat) (d : Option Nat) (g : Nat × Bool) (o : AOp) (l : List AI) (log : List (AI × Fp)) (S : St) (k : St -> Prop) (u : Dep k) :
   regDG P pre st j (⟨d, some g, .op o⟩ :: l) log S k u = guardG (guardV S.t (some g)) (optG (ex S.t S.blk S.tok st o) (fun e =>
     condG (chk (pre.getD j []) log ⟨d, some g, .op o⟩ (fpOf S.t ⟨d, some g, .op o⟩ e)) (regDG P pre (st + 1) (j + 1) l (log ++ [(⟨d, some g, .op o⟩, fpOf S.t ⟨d, some g, .op o⟩ e)]) (S.app d e) k .mk) False .mk) .mk)
     (condG (chk (pre.getD j []) log ⟨d, some g, .op o⟩ (fpOf S.t ⟨d, some g, .op o⟩ ⟨.tup [], [], []⟩)) (regDG P pre (st + 1) (j + 1) l (log ++ [(⟨d, some g, .op o⟩, fpOf S.t ⟨d, some g, .op o⟩ ⟨.tup [], [], []⟩)]) (S.app d ⟨.tup [], [], []⟩) k .mk) False .mk) .mk := by
 apply propext
 constructor
 . rintro ⟨e, h1, h2, h3⟩
   have h2 : chk (pre.getD j []) log ⟨d, some g, .op o⟩ (fpOf S.t ⟨d, some g, .op o⟩ e) = true := h2
   unfold Out at h1
   dsimp only at h1
   cases hg : guardV S.t (some g) with
   | none => rw [hg] at h1; exact h1.elim
   | some b =>
     rw [hg] at h1
     cases b with
     | true =>
       have h1 : ex S.t S.blk S.tok st o = some e := h1
       simp only [guardG_some, condG_true, h1, optG_some, h2]
       exact h3
     | false =>
       have h1 : e = ⟨.tup [], [], []⟩ := h1
       subst h1
       simp only [guardG_some, condG_false, condG_true, h2]
       exact h3
 . intro h
   cases hg : guardV S.t (some g) with
   | none => rw [hg] at h; exact h.elim
   | some b =>
     rw [hg] at h
     cases b with
     | true =>
       simp only [guardG_some, condG_true] at h
       cases hx : ex S.t S.blk S.tok st o with
       | none => rw [hx] at h; exact h.elim
       | some e =>
         rw [hx] at h
         simp only [optG_some] at h
         cases hc : chk (pre.getD j []) log ⟨d, some g, .op o⟩ (fpOf S.t ⟨d, some g, .op o⟩ e) with
         | true => simp only [hc, condG_true] at h; exact ⟨e, by unfold Out; dsimp only; rw [hg]; exact hx, hc, h⟩
         | false => simp only [hc, condG_false] at h
     | false =>
       simp only [guardG_some, condG_false] at h
       cases hc : chk (pre.getD j []) log ⟨d, some g, .op o⟩ (fpOf S.t ⟨d, some g, .op o⟩ ⟨.tup [], [], []⟩) with
       | true => simp only [hc, condG_true] at h; exact ⟨⟨.tup [], [], []⟩, by unfold Out; dsimp only; rw [hg]; rfl, hc, h⟩
       | false => simp only [hc, condG_false] at h
@[simp] theorem regDG_gnq (P : Program) (pre : List (List Nat)) (st j : Nat) (d : Option Nat) (g : Nat × Bool) (kd : Nat) (neg : Bool) (x : X) (l : List AI) (log : List (AI × Fp)) (S : St) (k : St -> Prop) (u : Dep k) :
   regDG P pre st j (⟨d, some g, .nq kd neg x⟩ :: l) log S k u = guardG (guardV S.t (some g)) (optG (ex S.t S.blk S.tok st (.nilq kd neg x)) (fun e =>
     condG (chk (pre.getD j []) log ⟨d, some g, .nq kd neg x⟩ (fpOf S.t ⟨d, some g, .nq kd neg x⟩ e)) (regDG P pre (st + 1) (j + 1) l (log ++ [(⟨d, some g, .nq kd neg x⟩, fpOf S.t ⟨d, some g, .nq kd neg x⟩ e)]) (S.app d e) k .mk) False .mk) .mk)
     (condG (chk (pre.getD j []) log ⟨d, some g, .nq kd neg x⟩ (fpOf S.t ⟨d, some g, .nq kd neg x⟩ ⟨.tup [], [], []⟩)) (regDG P pre (st + 1) (j + 1) l (log ++ [(⟨d, some g, .nq kd neg x⟩, fpOf S.t ⟨d, some g, .nq kd neg x⟩ ⟨.tup [], [], []⟩)]) (S.app d ⟨.tup [], [], []⟩) k .mk) False .mk) .mk := by
 apply propext
 constructor
 . rintro ⟨e, h1, h2, h3⟩
   have h2 : chk (pre.getD j []) log ⟨d, some g, .nq kd neg x⟩ (fpOf S.t ⟨d, some g, .nq kd neg x⟩ e) = true := h2
   unfold Out at h1
   dsimp only at h1
   cases hg : guardV S.t (some g) with
   | none => rw [hg] at h1; exact h1.elim
   | some b =>
     rw [hg] at h1
     cases b with
     | true =>
       have h1 : ex S.t S.blk S.tok st (.nilq kd neg x) = some e := h1
       simp only [guardG_some, condG_true, h1, optG_some, h2]
       exact h3
     | false =>
       have h1 : e = ⟨.tup [], [], []⟩ := h1
       subst h1
       simp only [guardG_some, condG_false, condG_true, h2]
       exact h3
 . intro h
   cases hg : guardV S.t (some g) with
   | none => rw [hg] at h; exact h.elim
   | some b =>
     rw [hg] at h
     cases b with
     | true =>
       simp only [guardG_some, condG_true] at h
       cases hx : ex S.t S.blk S.tok st (.nilq kd neg x) with
       | none => rw [hx] at h; exact h.elim
       | some e =>
         rw [hx] at h
         simp only [optG_some] at h
         cases hc : chk (pre.getD j []) log ⟨d, some g, .nq kd neg x⟩ (fpOf S.t ⟨d, some g, .nq kd neg x⟩ e) with
         | true => simp only [hc, condG_true] at h; exact ⟨e, by unfold Out; dsimp only; rw [hg]; exact hx, hc, h⟩
         | false => simp only [hc, condG_false] at h
     | false =>
       simp only [guardG_some, condG_false] at h
       cases hc : chk (pre.getD j []) log ⟨d, some g, .nq kd neg x⟩ (fpOf S.t ⟨d, some g, .nq kd neg x⟩ ⟨.tup [], [], []⟩) with
       | true => simp only [hc, condG_true] at h; exact ⟨⟨.tup [], [], []⟩, by unfold Out; dsimp only; rw [hg]; rfl, hc, h⟩
       | false => simp only [hc, condG_false] at h
@[simp] theorem regDG_gcall (P : Program) (pre : List (List Nat)) (st j : Nat) (d : Option Nat) (g : Nat × Bool) (f : X) (args : List X) (l : List AI) (log : List (AI × Fp)) (S : St) (k : St -> Prop) (u : Dep k) :
   regDG P pre st j (⟨d, some g, .call f args⟩ :: l) log S k u = guardG (guardV S.t (some g)) (callD P (f.ev S.t) (args.map fun x => x.ev S.t) S.blk (fun e =>
     condG (chk (pre.getD j []) log ⟨d, some g, .call f args⟩ (fpOf S.t ⟨d, some g, .call f args⟩ e)) (regDG P pre (st + 1) (j + 1) l (log ++ [(⟨d, some g, .call f args⟩, fpOf S.t ⟨d, some g, .call f args⟩ e)]) (S.app d e) k .mk) False .mk) .mk)
     (condG (chk (pre.getD j []) log ⟨d, some g, .call f args⟩ (fpOf S.t ⟨d, some g, .call f args⟩ ⟨.tup [], [], []⟩)) (regDG P pre (st + 1) (j + 1) l (log ++ [(⟨d, some g, .call f args⟩, fpOf S.t ⟨d, some g, .call f args⟩ ⟨.tup [], [], []⟩)]) (S.app d ⟨.tup [], [], []⟩) k .mk) False .mk) .mk := by
 apply propext
 constructor
 . rintro ⟨e, h1, h2, h3⟩
   have h2 : chk (pre.getD j []) log ⟨d, some g, .call f args⟩ (fpOf S.t ⟨d, some g, .call f args⟩ e) = true := h2
   unfold Out at h1
   dsimp only at h1
   cases hg : guardV S.t (some g) with
   | none => rw [hg] at h1; exact h1.elim
   | some b =>
     rw [hg] at h1
     cases b with
     | true =>
       have h1 : LCallP P (f.ev S.t) (args.map fun x => x.ev S.t) S.blk e := h1
       simp only [guardG_some, condG_true]
       refine ⟨e, h1, ?_⟩
       simp only [h2, condG_true]
       exact h3
     | false =>
       have h1 : e = ⟨.tup [], [], []⟩ := h1
       subst h1
       simp only [guardG_some, condG_false, condG_true, h2]
       exact h3
 . intro h
   cases hg : guardV S.t (some g) with
   | none => rw [hg] at h; exact h.elim
   | some b =>
     rw [hg] at h
     cases b with
     | true =>
       simp only [guardG_some, condG_true] at h
       obtain ⟨e, h1, h⟩ := h
       cases hc : chk (pre.getD j []) log ⟨d, some g, .call f args⟩ (fpOf S.t ⟨d, some g, .call f args⟩ e) with
       | true => simp only [hc, condG_true] at h; exact ⟨e, by unfold Out; dsimp only; rw [hg]; exact h1, hc, h⟩
       | false => simp only [hc, condG_false] at h
     | false =>
       simp only [guardG_some, condG_false] at h
       cases hc : chk (pre.getD j []) log ⟨d, some g, .call f args⟩ (fpOf S.t ⟨d, some g, .call f args⟩ ⟨.tup [], [], []⟩) with
       | true => simp only [hc, condG_true] at h; exact ⟨⟨.tup [], [], []⟩, by unfold Out; dsimp only; rw [hg]; rfl, hc, h⟩
       | false => simp only [hc, condG_false] at h
theorem loopM {P : Program} {a : AC} {κ : Ex -> St -> Prop} {S : St} {u : Dep κ} (I : Nat -> St -> Prop) (m : Nat) (h0 : I m S)
   (hs : ∀ m S', I m S' -> V P a (Lp κ fun S'' => ∃ m', m' < m /\ I m' S'') S') : LoopG P a κ S u := V_loop I m h0 hs
theorem loopN {P : Program} {a : AC} {κ : Ex -> St -> Prop} {S : St} {u : Dep κ} (J : Nat -> St -> Prop) (n : Nat) (h0 : J 0 S)
   (hs : ∀ i S', i <= n -> J i S' -> V P a (Lp κ fun S'' => i < n /\ J (i + 1) S'') S') : LoopG P a κ S u := V_count J n h0 hs
theorem sliceA_sl' {so : Option Nat} {nm st s off len : Nat} {lo hi : Option Nat} : sliceA so (.sl nm st s off len) lo hi = if so = some s /\ lo.getD 0 <= hi.getD len /\ hi.getD len <= len then some (.sl nm st s (off + lo.getD 0) (hi.getD len - lo.getD 0)) else none := rfl
theorem sliceA_lst' {so : Option Nat} {s : Nat} {xs : List AV} {lo hi : Option Nat} : sliceA so (.lst s xs) lo hi = if so = some s /\ lo.getD 0 <= hi.getD xs.length /\ hi.getD xs.length <= xs.length then some (.lst s ((xs.take (hi.getD xs.length)).drop (lo.getD 0))) else none := rfl
theorem sliceA_acc' {so : Option Nat} {nm st s : Nat} {xs : List AV} {lo hi : Option Nat} : sliceA so (.acc nm st s xs) lo hi = if so = some s /\ lo.getD 0 <= hi.getD xs.length /\ hi.getD xs.length <= xs.length then some (.lst s ((xs.take (hi.getD xs.length)).drop (lo.getD 0))) else none := rfl
theorem sliceA_nils' {so : Option Nat} {lo hi : Option Nat} : sliceA so .nils lo hi = if so ≠ none /\ hi.getD 0 = 0 /\ lo.getD 0 = 0 then some .nils else none := rfl
theorem sliceA_str' {so : Option Nat} {s : ByteArray} {lo hi : Option Nat} : sliceA so (.str s) lo hi = if so = none /\ lo.getD 0 <= hi.getD s.size /\ hi.getD s.size <= s.size then some (.str (s.extract (lo.getD 0) (hi.getD s.size))) else none := rfl
attribute [simp] sliceA_sl' sliceA_lst' sliceA_acc' sliceA_nils' sliceA_str'
attribute [simp] rxO txO AK.rxs AK.txs
attribute [simp] chk fpOf apartI Fp.apart disj AK.xs.eq_1 AK.xs.eq_2 AK.xs.eq_3 AI.slots rdV.eq_1 rdV.eq_2
attribute [simp] aopXs.eq_1 aopXs.eq_2 aopXs.eq_3 aopXs.eq_4 aopXs.eq_5 aopXs.eq_6 aopXs.eq_7 aopXs.eq_8 aopXs.eq_9 aopXs.eq_10 aopXs.eq_11 aopXs.eq_12 aopXs.eq_13 aopXs.eq_14 aopXs.eq_15 aopXs.eq_16 aopXs.eq_17 aopXs.eq_18 aopXs.eq_19 aopXs.eq_20 aopXs.eq_21 aopXs.eq_22 aopXs.eq_23 aopXs.eq_24 aopXs.eq_25 aopXs.eq_26 aopXs.eq_27 aopXs.eq_28 aopXs.eq_29 aopXs.eq_30 aopXs.eq_31 aopXs.eq_32
section
variable {k : IntKind} {n : Int} {b : Bool} {cs xs : List AV} {s : ByteArray} {nm st sz i off len : Nat} {f : FuncId}
@[simp] theorem rdV_int : rdV (.int k n) = [] := rfl
@[simp] theorem rdV_bool : rdV (.bool b) = [] := rfl
@[simp] theorem rdV_str : rdV (.str s) = [] := rfl
@[simp] theorem rdV_nils : rdV .nils = [] := rfl
@[simp] theorem rdV_nilp : rdV .nilp = [] := rfl
@[simp] theorem rdV_nilf : rdV .nilf = [] := rfl
@[simp] theorem rdV_lst : rdV (.lst sz xs) = [] := rfl
@[simp] theorem rdV_acc : rdV (.acc nm st sz xs) = [] := rfl
@[simp] theorem rdV_kp : rdV (.kp cs off) = [] := rfl
@[simp] theorem rdV_fn : rdV (.fn f cs) = [] := rfl
@[simp] theorem rdV_agg : rdV (.agg cs) = [] := rfl
@[simp] theorem rdV_tup : rdV (.tup cs) = [] := rfl
@[simp] theorem tkV_int : tkV (.int k n) = [] := rfl
@[simp] theorem tkV_bool : tkV (.bool b) = [] := rfl
@[simp] theorem tkV_str : tkV (.str s) = [] := rfl
@[simp] theorem tkV_nils : tkV .nils = [] := rfl
@[simp] theorem tkV_nilp : tkV .nilp = [] := rfl
@[simp] theorem tkV_nilf : tkV .nilf = [] := rfl
@[simp] theorem tkV_lst : tkV (.lst sz xs) = [] := rfl
@[simp] theorem tkV_acc : tkV (.acc nm st sz xs) = [nm] := rfl
@[simp] theorem tkV_kp : tkV (.kp cs off) = [] := rfl
@[simp] theorem tkV_fn : tkV (.fn f cs) = [] := rfl
@[simp] theorem tkV_agg : tkV (.agg cs) = [] := rfl
@[simp] theorem tkV_tup : tkV (.tup cs) = [] := rfl
@[simp] theorem tkV_ptr : tkV (.ptr nm st sz i off) = [] := rfl
@[simp] theorem tkV_sl : tkV (.sl nm st sz off len) = [] := rfl
end
def operandV (n : Int) : Int := if n = 1 then 1 else if n = 5 \/ n = 6 then 2 else if n = 7 then 3 else if n = 20 \/ n = 21 then 4 else if n = 22 then 5 else 0
theorem operandV_cases (n : Int) : operandV n = 0 \/ operandV n = 1 \/ operandV n = 2 \/ operandV n = 3 \/ operandV n = 4 \/ operandV n = 5 := by unfold operandV; grind
def firstNZ : List Int -> Int
 | [] => 0
 | x :: l => if x ≠ 0 then x else firstNZ l
theorem firstNZ_drop (l : List Int) (i : Nat) (h : i < l.length) : firstNZ (l.drop i) = if l[i] ≠ 0 then l[i] else firstNZ (l.drop (i + 1)) := by
 rw [List.drop_eq_getElem_cons h, firstNZ]
theorem firstNZ_end (l : List Int) (i : Nat) (h : l.length <= i) : firstNZ (l.drop i) = 0 := by rw [List.drop_of_length_le h]; rfl
def instrV (nh args n : Int) (i : Ins) : Int :=
 if ¬ (1 <= i.op /\ i.op <= 25) \/ (operandV i.op = 0 /\ i.a ≠ 0) then 1
 else if operandV i.op = 4 /\ (i.a < 0 \/ i.a > n) then 4
 else if (operandV i.op = 2 /\ (i.a < 0 \/ i.a >= 8)) \/ (operandV i.op = 3 /\ (i.a < 0 \/ i.a >= args)) then 6
 else if operandV i.op = 5 /\ (i.a < 0 \/ i.a >= nh) then 7 else 0
def handlerV (nh : Int) (h : Hnd) : Int :=
 if h.args < 0 \/ h.args > 4 then 1 else if (h.code.length : Int) > 64 then 3 else firstNZ (h.code.map (instrV nh h.args h.code.length))
def actorV (hs : List Hnd) (a : Actr) : Int :=
 if (a.regs.length : Int) > 8 then 3 else if a.cap < 0 \/ a.cap > 16 then 1
 else if a.timer ≠ -1 /\ (a.timer < 0 \/ a.timer >= hs.length \/ (hs[a.timer.toNat]?.map Hnd.args).getD 0 ≠ 0) then 7
 else if a.armed = true /\ a.timer = -1 then 1 else 0
def noteV (hs : List Hnd) (na : Int) (n : Nt) : Int :=
 if n.to < 0 \/ n.to >= na \/ n.hd < 0 \/ n.hd >= hs.length then 7
 else if (n.args.length : Int) ≠ (hs[n.hd.toNat]?.map Hnd.args).getD 0 then 1 else 0
def checkV (p : Prg) : Int :=
 if (p.hs.length : Int) > 16 \/ (p.as.length : Int) > 8 \/ (p.boot.length : Int) > 16 then 3
 else if p.as.length = 0 \/ p.fuel < 1 \/ p.fuel > 256 then 1
 else if firstNZ (p.hs.map (handlerV p.hs.length)) ≠ 0 then firstNZ (p.hs.map (handlerV p.hs.length))
 else if firstNZ (p.as.map (actorV p.hs)) ≠ 0 then firstNZ (p.as.map (actorV p.hs))
 else firstNZ (p.boot.map (noteV p.hs p.as.length))
end Go.Gv

namespace Go.Gv
open Go.RowKit
def EndsK (al : List ARes) (t : Nat -> AV) (k : AV -> St -> Prop) : Ex -> St -> Prop
 | .exit _, _ => False
 | _, S => ∃ v, resOf S al = some v /\ k v { S with t := t }
@[simp] theorem endsK_normal (al : List ARes) (t : Nat -> AV) (k : AV -> St -> Prop) (S : St) : EndsK al t k .normal S = ∃ v, resOf S al = some v /\ k v { S with t := t } := rfl
@[simp] theorem endsK_ret (al : List ARes) (t : Nat -> AV) (k : AV -> St -> Prop) (S : St) : EndsK al t k .ret S = ∃ v, resOf S al = some v /\ k v { S with t := t } := rfl
@[simp] theorem endsK_exit (al : List ARes) (t : Nat -> AV) (k : AV -> St -> Prop) (S : St) (i : Nat) : EndsK al t k (.exit i) S = False := rfl
theorem callV {P : Program} {f base : Nat} {hint : List (Nat × Nat)} {name : String} {n : Nat} {ac : AC} {al : List ARes} (h : getF P f base hint = some (name, n, ac, al)) (hname : name ≠ "runtime.NumGoroutine")
   {caps vals : List AV} {S : St} {k : AV -> St -> Prop} {u : Dep k} (hn : (vals ++ caps).length <= n)
   (hV : V P ac (EndsK al S.t k) ⟨fun t => (vals ++ caps).getD t (.tup []), S.blk, S.tok, S.clk⟩) : CallG P (.fn f caps) vals S k u := by
 unfold getF at h
 rcases hf : P.funcs[f]? with _ | fn
 . rw [hf] at h; simp at h
 rw [hf] at h
 simp only [Option.bind_some] at h
 rcases hb : fn.body with _ | c
 . rw [hb] at h; simp at h
 rw [hb] at h
 simp only [Option.bind_some] at h
 rcases hc : cCode P fn.ntmps base hint c with _ | ac'
 . rw [hc] at h; simp at h
 rw [hc] at h
 simp only [Option.bind_some] at h
 rcases hal : cRes P fn.ntmps fn.results.toList with _ | al'
 . rw [hal] at h; simp at h
 rw [hal] at h
 simp only [Option.map_some, Option.some.injEq, Prod.mk.injEq] at h
 obtain ⟨h1, h2, h3, h4⟩ := h
 subst h1; subst h2; subst h3; subst h4
 refine ⟨f, caps, rfl, ⟨fn, hf, by simp [hb], hname⟩, fun E B W w args H hW hB hu hsz hrel => ?_⟩
 have C : Conc ⟨E.K, E, S.clk⟩ E B W fn.ntmps ⟨fun t => (vals ++ caps).getD t (.tup []), S.blk, S.tok, S.clk⟩ { tmps := args ++ Array.replicate (fn.ntmps - args.size) undef, defers := [] } w := by
   refine ⟨H, hW, hB, rfl, ?_, ?_, fun _ _ _ => rfl, .refl _, fun s hs => .inl hs, Nat.le_refl _⟩
   . simp; omega
   . intro t ht
     show Rel E ((vals ++ caps).getD t (.tup [])) _
     by_cases hta : t < (vals ++ caps).length
     . have e1 : (vals ++ caps)[t]? = some (vals ++ caps)[t] := List.getElem?_eq_getElem hta
       have e2 : args[t]? = some args[t] := Array.getElem?_eq_getElem (by omega)
       have : (args ++ Array.replicate (fn.ntmps - args.size) undef).getD t undef = args[t] := by
         rw [Array.getD_eq_getD_getElem?, Array.getElem?_append_left (by omega), e2]; rfl
       rw [this, List.getD_eq_getElem?_getD, e1]
       exact hrel t _ _ e1 e2
     . have e1 : (vals ++ caps).getD t (.tup []) = .tup [] := by rw [List.getD_eq_getElem?_getD, List.getElem?_eq_none (by omega)]; rfl
       have : (args ++ Array.replicate (fn.ntmps - args.size) undef).getD t undef = undef := by
         rw [Array.getD_eq_getD_getElem?, Array.getElem?_append_right (by omega), Array.getElem?_replicate]
         split <;> rfl
       rw [this, e1]
       exact .tup [] #[] rfl (by simp)
 refine calls_of_wp hf hb (wp_mono (V_sound base hint c ac' hc _ _ hV E _ w C (fun s hs => hu s hs)) ?_)
 rintro e a' w' ⟨E', S', C', hu', hk⟩
 have fin : (∃ v, resOf S' al' = some v /\ k v { S' with t := S.t }) -> a'.defers = [] /\ ∃ v, (results fn a'.tmps).run P w' = .ok v w' /\ ∃ v' E'' r S'', Ending.returned v = .returned v' /\ E.le E'' /\ HConc E'' B S''.h w' /\ Below B W w' /\ (∀ b o, b < B -> E''.K b o = E.K b o) /\
     (∀ s, E''.u s -> (E.u s \/ S.clk <= s) /\ s < S''.clk) /\ S.clk <= S''.clk /\ S''.t = S.t /\ Rel E'' r v' /\ k r S'' := by
   rintro ⟨v, hv, hkv⟩
   obtain ⟨u, hu2, hru⟩ := results_ok C' fn al' hal v hv
   exact ⟨C'.df, u, hu2, u, E', v, { S' with t := S.t }, rfl, C'.le0, C'.H, C'.bel, C'.kb, fun s hs => ⟨C'.u0 s hs, hu' s hs⟩, C'.ck, rfl, hru, hkv⟩
 cases e with
 | normal => exact fin hk
 | ret => exact fin hk
 | exit i => exact hk.elim
 | goto l => exact hk.elim
 | panic ch => exact hk.elim
 | outgrown => exact hk.elim
end Go.Gv
