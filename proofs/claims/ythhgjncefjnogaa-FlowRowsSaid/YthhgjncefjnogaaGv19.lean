/- The program's own data as abstract values, and what the walks rewrite with. No condition beyond those that each law names. -/
import Derived.Test.YthhgjncefjnogaaGv18
import Derived.IntWalk
set_option linter.unusedVariables false
set_option linter.unusedSimpArgs false
namespace Go.Gv

attribute [simp] guardV X.ev.eq_1 X.ev.eq_2 St.bump St.put.eq_1 St.put.eq_2 St.app appB.eq_1 appB.eq_2 appT.eq_1 appT.eq_2
@[simp] theorem intBin_add (k : IntKind) (a b : Int) : intBin .add k a b = some (.int k (k.wrap (a + b))) := rfl
@[simp] theorem intBin_sub (k : IntKind) (a b : Int) : intBin .sub k a b = some (.int k (k.wrap (a - b))) := rfl
@[simp] theorem intBin_mul (k : IntKind) (a b : Int) : intBin .mul k a b = some (.int k (k.wrap (a * b))) := rfl
@[simp] theorem intBin_quo (k : IntKind) (a b : Int) : intBin .quo k a b = if b = 0 then none else some (.int k (k.wrap (a.tdiv b))) := rfl
@[simp] theorem intBin_rem (k : IntKind) (a b : Int) : intBin .rem k a b = if b = 0 then none else some (.int k (a.tmod b)) := rfl
@[simp] theorem intBin_and (k : IntKind) (a b : Int) : intBin .and k a b = some (.int k (bitAnd k a b)) := rfl
@[simp] theorem intBin_or (k : IntKind) (a b : Int) : intBin .or k a b = some (.int k (bitOr k a b)) := rfl
@[simp] theorem intBin_xor (k : IntKind) (a b : Int) : intBin .xor k a b = some (.int k (bitXor k a b)) := rfl
@[simp] theorem intBin_andNot (k : IntKind) (a b : Int) : intBin .andNot k a b = some (.int k (bitAndNot k a b)) := rfl
@[simp] theorem intBin_lss (k : IntKind) (a b : Int) : intBin .lss k a b = some (.bool (decide (a < b))) := rfl
@[simp] theorem intBin_leq (k : IntKind) (a b : Int) : intBin .leq k a b = some (.bool (decide (a ≤ b))) := rfl
@[simp] theorem intBin_gtr (k : IntKind) (a b : Int) : intBin .gtr k a b = some (.bool (decide (a > b))) := rfl
@[simp] theorem intBin_geq (k : IntKind) (a b : Int) : intBin .geq k a b = some (.bool (decide (a ≥ b))) := rfl
@[simp] theorem intBin_eql (k : IntKind) (a b : Int) : intBin .eql k a b = some (.bool (decide (a = b))) := rfl
@[simp] theorem intBin_neq (k : IntKind) (a b : Int) : intBin .neq k a b = some (.bool (!decide (a = b))) := rfl
attribute [simp] resOf.eq_1 resL.eq_1 resL.eq_2 resOf1.eq_1 resOf1.eq_2 resOf1.eq_3 initS upd_lit
attribute [simp] ex.eq_1 ex.eq_2 ex.eq_3 ex.eq_4 ex.eq_5 ex.eq_6 ex.eq_7 ex.eq_8 ex.eq_9 ex.eq_10 ex.eq_11 ex.eq_12 ex.eq_13 ex.eq_14 ex.eq_15 ex.eq_16 ex.eq_17 ex.eq_18 ex.eq_19 ex.eq_20 ex.eq_21 ex.eq_22 ex.eq_23 ex.eq_24 ex.eq_25 ex.eq_26 ex.eq_27 ex.eq_28 ex.eq_29 ex.eq_30 ex.eq_31 ex.eq_32 ex.eq_33 ex.eq_34
attribute [simp] ldOne ldAgg getB setCells.eq_1 fillA.eq_1 fillA.eq_2 optNat.eq_1 optNat.eq_2

@[simp] theorem undB_nilq (f : Nat → AV) (neg : Bool) (x : X) : undB f (.nilq 0 neg x) = undV (x.ev f) := rfl
@[simp] theorem undB_nilq1 (f : Nat → AV) (k : Nat) (neg : Bool) (x : X) : undB f (.nilq (k + 1) neg x) = false := rfl
attribute [simp] undV

section
variable {k : IntKind} {n : Int} {b : Bool} {cs xs : List AV} {s : ByteArray} {nm st sz i off len : Nat} {f : FuncId}
@[simp] theorem ends_normal (al : List ARes) (r : AV) (S : St) : Ends al r .normal S = ∃ v, resOf S al = some v ∧ coT (some S.blk) v r := rfl
@[simp] theorem ends_ret (al : List ARes) (r : AV) (S : St) : Ends al r .ret S = ∃ v, resOf S al = some v ∧ coT (some S.blk) v r := rfl
@[simp] theorem ends_exit (al : List ARes) (r : AV) (S : St) (i : Nat) : Ends al r (.exit i) S = False := rfl
@[simp] theorem lp_normal (κ : Ex → St → Prop) (J : St → Prop) (S : St) : Lp κ J .normal S = J S := rfl
@[simp] theorem lp_exit (κ : Ex → St → Prop) (J : St → Prop) (i : Nat) (S : St) : Lp κ J (.exit i) S = κ (.exit i) S := rfl
@[simp] theorem lp_ret (κ : Ex → St → Prop) (J : St → Prop) (S : St) : Lp κ J .ret S = κ .ret S := rfl
@[simp] theorem cells_agg : (AV.agg cs).cells = cs := rfl
@[simp] theorem cells_int : (AV.int k n).cells = [.int k n] := rfl
@[simp] theorem cells_bool : (AV.bool b).cells = [.bool b] := rfl
@[simp] theorem cells_str : (AV.str s).cells = [.str s] := rfl
@[simp] theorem cells_nils : AV.nils.cells = [.nils] := rfl
@[simp] theorem cells_nilp : AV.nilp.cells = [.nilp] := rfl
@[simp] theorem cells_nilf : AV.nilf.cells = [.nilf] := rfl
@[simp] theorem cells_lst : (AV.lst sz xs).cells = [.lst sz xs] := rfl
@[simp] theorem cells_acc : (AV.acc nm st sz xs).cells = [.acc nm st sz xs] := rfl
@[simp] theorem cells_sl : (AV.sl nm st sz off len).cells = [.sl nm st sz off len] := rfl
@[simp] theorem cells_ptr : (AV.ptr nm st sz i off).cells = [.ptr nm st sz i off] := rfl
@[simp] theorem cells_kp : (AV.kp cs off).cells = [.kp cs off] := rfl
@[simp] theorem cells_fn : (AV.fn f cs).cells = [.fn f cs] := rfl
@[simp] theorem one_int : (AV.int k n).one = true := rfl
@[simp] theorem one_bool : (AV.bool b).one = true := rfl
@[simp] theorem one_str : (AV.str s).one = true := rfl
@[simp] theorem one_nils : AV.nils.one = true := rfl
@[simp] theorem one_nilp : AV.nilp.one = true := rfl
@[simp] theorem one_nilf : AV.nilf.one = true := rfl
@[simp] theorem one_lst : (AV.lst sz xs).one = true := rfl
@[simp] theorem one_acc : (AV.acc nm st sz xs).one = true := rfl
@[simp] theorem one_sl : (AV.sl nm st sz off len).one = true := rfl
@[simp] theorem one_ptr : (AV.ptr nm st sz i off).one = true := rfl
@[simp] theorem one_kp : (AV.kp cs off).one = true := rfl
@[simp] theorem one_fn : (AV.fn f cs).one = true := rfl
@[simp] theorem cl1_int : (AV.int k n).cl1 = true := rfl
@[simp] theorem cl1_bool : (AV.bool b).cl1 = true := rfl
@[simp] theorem cl1_str : (AV.str s).cl1 = true := rfl
@[simp] theorem cl1_nils : AV.nils.cl1 = true := rfl
@[simp] theorem cl1_nilp : AV.nilp.cl1 = true := rfl
@[simp] theorem cl1_nilf : AV.nilf.cl1 = true := rfl
@[simp] theorem cl1_lst : (AV.lst sz xs).cl1 = true := rfl
@[simp] theorem cl1_acc : (AV.acc nm st sz xs).cl1 = false := rfl
@[simp] theorem cl1_sl : (AV.sl nm st sz off len).cl1 = false := rfl
@[simp] theorem cl1_kp : (AV.kp cs off).cl1 = true := rfl
@[simp] theorem norm1_int : norm1 (AV.int k n) = AV.int k n := rfl
@[simp] theorem norm1_bool : norm1 (AV.bool b) = .bool b := rfl
@[simp] theorem norm1_str : norm1 (AV.str s) = .str s := rfl
@[simp] theorem norm1_nils : norm1 AV.nils = .nils := rfl
@[simp] theorem norm1_lst : norm1 (AV.lst sz xs) = .lst sz xs := rfl
@[simp] theorem norm1_acc : norm1 (AV.acc nm st sz xs) = .lst sz xs := rfl
@[simp] theorem norm1_sl : norm1 (AV.sl nm st sz off len) = .sl nm st sz off len := rfl
@[simp] theorem normE_agg : normE (AV.agg cs) = .agg (cs.map norm1) := rfl
@[simp] theorem normE_int : normE (AV.int k n) = AV.int k n := rfl
@[simp] theorem normE_bool : normE (AV.bool b) = .bool b := rfl
@[simp] theorem normE_str : normE (AV.str s) = .str s := rfl
@[simp] theorem normE_lst : normE (AV.lst sz xs) = .lst sz xs := rfl
@[simp] theorem normE_acc : normE (AV.acc nm st sz xs) = .lst sz xs := rfl
@[simp] theorem normE_nils : normE AV.nils = .nils := rfl
@[simp] theorem asNat_iv : asNat (AV.int k n) = if 0 ≤ n then some n.toNat else none := rfl
@[simp] theorem lenOf_nils : lenOf .nils = some 0 := rfl
@[simp] theorem lenOf_lst : lenOf (.lst sz xs) = some xs.length := rfl
@[simp] theorem lenOf_acc : lenOf (.acc nm st sz xs) = some xs.length := rfl
@[simp] theorem lenOf_sl : lenOf (.sl nm st sz off len) = some len := rfl
variable {blk : Nat → Option Blk} {tok : Nat → Option Tok} {s' : Nat} {ty : TypeId}
@[simp] theorem cellsAt_ptr : cellsAt blk (.ptr nm st sz i off) = (getB blk nm st sz).bind fun es => (es[i]?).map fun x => (x.cells, off) := rfl
@[simp] theorem cellsAt_kp : cellsAt blk (.kp cs off) = some (cs, off) := rfl
@[simp] theorem listOf_nils : listOf blk sz .nils = some [] := rfl
@[simp] theorem listOf_lst : listOf blk sz (.lst s' xs) = if s' = sz then some xs else none := rfl
@[simp] theorem listOf_acc : listOf blk sz (.acc nm st s' xs) = if s' = sz then some xs else none := rfl
theorem listOf_sl : listOf blk sz (.sl nm st s' off len) = if s' = sz then (getB blk nm st s').bind fun es => if off + len ≤ es.length ∧ (((es.drop off).take len).all fun x => x.cells.all AV.cl1) = true then some ((es.drop off).take len) else none else none := rfl
@[simp] theorem listM_nils : listM blk sz .nils = some [] := rfl
@[simp] theorem listM_lst : listM blk sz (.lst s' xs) = if s' = sz then some xs else none := rfl
@[simp] theorem listM_acc : listM blk sz (.acc nm st s' xs) = if s' = sz then some xs else none := rfl
@[simp] theorem listM_sl : listM blk sz (.sl nm st s' off len) = if s' = sz then (getB blk nm st s').bind fun es => if off + len ≤ es.length then some ((es.drop off).take len) else none else none := rfl
@[simp] theorem appwBase_nils : appwBase blk sz .nils = some ([], none) := rfl
@[simp] theorem appwBase_sl : appwBase blk sz (.sl nm st s' off len) = if s' = sz then (getB blk nm st s').bind fun es => if off + len ≤ es.length then some ((es.drop off).take len, some nm) else none else none := rfl
@[simp] theorem nilA_nils : nilA 0 .nils = some true := rfl
@[simp] theorem nilA_nilp : nilA 1 .nilp = some true := rfl
@[simp] theorem nilA_nilf : nilA 2 .nilf = some true := rfl
@[simp] theorem nilA_ptr : nilA 1 (.ptr nm st sz i off) = some false := rfl
@[simp] theorem nilA_kp : nilA 1 (.kp cs off) = some false := rfl
@[simp] theorem nilA_fn : nilA 2 (.fn f cs) = some false := rfl
@[simp] theorem nilA_cons {x : AV} : nilA 0 (.lst sz (x :: xs)) = some false := rfl
@[simp] theorem nilA_acc {x : AV} : nilA 0 (.acc nm st sz (x :: xs)) = some false := rfl
@[simp] theorem nilA_sl : nilA 0 (.sl nm st sz off len) = if 0 < len then some false else none := rfl
@[simp] theorem appBase_nils : appBase tok sz ty .nils = some ([], none) := rfl
@[simp] theorem appBase_acc : appBase tok sz ty (.acc nm st s' xs) = match tok nm with
    | some t => if t.st = st ∧ t.sz = sz ∧ s' = sz ∧ t.ty = ty then some (xs, some nm) else none
    | none => none := rfl
@[simp] theorem idxA_lst : idxA blk sz (.lst s' xs) i = if s' = sz then (xs[i]?).map fun x => .kp x.cells 0 else none := rfl
@[simp] theorem idxA_acc : idxA blk sz (.acc nm st s' xs) i = if s' = sz then (xs[i]?).map fun x => .kp x.cells 0 else none := rfl
@[simp] theorem idxA_sl {j : Nat} : idxA blk sz (.sl nm st s' off len) j = if s' = sz ∧ j < len then some (.ptr nm st s' (off + j) 0) else none := rfl
variable {k' : IntKind} {n' : Int} {b' : Bool} {cs' xs' : List AV} {t t' : ByteArray} {B : Option (Nat → Option Blk)} {g : FuncId}
@[simp] theorem eq1_int : eq1 false (.int k n) (.int k' n') = if k = k' then some (decide (n = n')) else none := rfl
@[simp] theorem eq1_bool : eq1 true (.bool b) (.bool b') = some (b == b') := rfl
@[simp] theorem co1_int : co1 B (.int k n) (.int k' n') = (k = k' ∧ n = n') := rfl
@[simp] theorem co1_bool : co1 B (.bool b) (.bool b') = (b = b') := rfl
@[simp] theorem co1_str : co1 B (.str t) (.str t') = (t = t') := rfl
@[simp] theorem co1_nils : co1 B .nils .nils = True := rfl
@[simp] theorem co1_nilp : co1 B .nilp .nilp = True := rfl
@[simp] theorem co1_nilf : co1 B .nilf .nilf = True := rfl
@[simp] theorem co1_nils_lst : co1 B .nils (.lst s' xs) = (xs = []) := rfl
@[simp] theorem co1_lst : co1 B (.lst sz xs) (.lst s' xs') = (sz = s' ∧ xs = xs') := rfl
@[simp] theorem co1_acc : co1 B (.acc nm st sz xs) (.lst s' xs') = (sz = s' ∧ xs = xs') := rfl
@[simp] theorem co1_sl : co1 (some blk) (.sl nm st sz off len) (.lst s' xs') = (sz = s' ∧ listOf blk sz (.sl nm st sz off len) = some xs') := rfl
@[simp] theorem co1_fn : co1 B (.fn f []) (.fn g []) = (f = g) := rfl
@[simp] theorem coL_nil {R : AV → AV → Prop} : coL R [] [] = True := rfl
@[simp] theorem coL_cons {R : AV → AV → Prop} {x y : AV} {xs ys : List AV} : coL R (x :: xs) (y :: ys) = (R x y ∧ coL R xs ys) := rfl
@[simp] theorem co_agg : co B (.agg cs) (.agg cs') = coL (co1 B) cs cs' := rfl
@[simp] theorem coT_tup : coT B (.tup cs) (.tup cs') = coL (co B) cs cs' := rfl
@[simp] theorem coT_agg : coT B (.agg cs) (.agg cs') = coL (co1 B) cs cs' := rfl
@[simp] theorem co_int {y : AV} : co B (.int k n) y = co1 B (.int k n) y := by cases y <;> rfl
@[simp] theorem co_bool {y : AV} : co B (.bool b) y = co1 B (.bool b) y := by cases y <;> rfl
@[simp] theorem co_str {y : AV} : co B (.str t) y = co1 B (.str t) y := by cases y <;> rfl
@[simp] theorem co_nils {y : AV} : co B .nils y = co1 B .nils y := by cases y <;> rfl
@[simp] theorem co_lst {y : AV} : co B (.lst sz xs) y = co1 B (.lst sz xs) y := by cases y <;> rfl
@[simp] theorem co_acc {y : AV} : co B (.acc nm st sz xs) y = co1 B (.acc nm st sz xs) y := by cases y <;> rfl
@[simp] theorem co_sl {y : AV} : co B (.sl nm st sz off len) y = co1 B (.sl nm st sz off len) y := by cases y <;> rfl
@[simp] theorem co_fn {y : AV} : co B (.fn f cs) y = co1 B (.fn f cs) y := by cases y <;> rfl
@[simp] theorem coT_int {y : AV} : coT B (.int k n) y = co1 B (.int k n) y := by cases y <;> rfl
@[simp] theorem coT_bool {y : AV} : coT B (.bool b) y = co1 B (.bool b) y := by cases y <;> rfl
@[simp] theorem coT_str {y : AV} : coT B (.str t) y = co1 B (.str t) y := by cases y <;> rfl
@[simp] theorem coT_nils {y : AV} : coT B .nils y = co1 B .nils y := by cases y <;> rfl
@[simp] theorem coT_lst {y : AV} : coT B (.lst sz xs) y = co1 B (.lst sz xs) y := by cases y <;> rfl
@[simp] theorem coT_acc {y : AV} : coT B (.acc nm st sz xs) y = co1 B (.acc nm st sz xs) y := by cases y <;> rfl
@[simp] theorem coT_sl {y : AV} : coT B (.sl nm st sz off len) y = co1 B (.sl nm st sz off len) y := by cases y <;> rfl
@[simp] theorem coT_fn {y : AV} : coT B (.fn f cs) y = co1 B (.fn f cs) y := by cases y <;> rfl
end

abbrev iv (n : Int) : AV := .int .i64 n
abbrev ints (l : List Int) : AV := .lst 1 (l.map iv)

structure Ins where
  op : Int
  a : Int
deriving DecidableEq
structure Hnd where
  args : Int
  code : List Ins
deriving DecidableEq
structure Actr where
  regs : List Int
  cap : Int
  timer : Int
  armed : Bool
deriving DecidableEq
structure Nt where
  to : Int
  hd : Int
  args : List Int
deriving DecidableEq
structure Prg where
  hs : List Hnd
  as : List Actr
  boot : List Nt
  fuel : Int
deriving DecidableEq

@[simp] def Ins.av (i : Ins) : AV := .agg [iv i.op, iv i.a]
@[simp] def Hnd.av (h : Hnd) : AV := .agg [iv h.args, .lst 2 (h.code.map Ins.av)]
@[simp] def Actr.av (a : Actr) : AV := .agg [ints a.regs, iv a.cap, iv a.timer, .bool a.armed]
@[simp] def Nt.av (n : Nt) : AV := .agg [iv n.to, iv n.hd, ints n.args]
@[simp] def Prg.av (p : Prg) : AV := .agg [.lst 2 (p.hs.map Hnd.av), .lst 4 (p.as.map Actr.av), .lst 3 (p.boot.map Nt.av), iv p.fuel]

@[simp] theorem eqL_ii (k k' : IntKind) (a b c d : Int) : eqL [false, false] [.int k a, .int k' b] [.int k c, .int k' d] = some (decide (a = c) && decide (b = d)) := by
  by_cases h : a = c <;> by_cases h' : b = d <;> simp [eqL, h, h']
@[simp] theorem eqL_iii (k k' k'' : IntKind) (a b c d e f : Int) : eqL [false, false, false] [.int k a, .int k' b, .int k'' e] [.int k c, .int k' d, .int k'' f] = some (decide (a = c) && (decide (b = d) && decide (e = f))) := by
  by_cases h : a = c <;> by_cases h' : b = d <;> by_cases h'' : e = f <;> simp [eqL, h, h', h'']
theorem wrap_in (n : Int) (h1 : -9223372036854775808 ≤ n) (h2 : n ≤ 9223372036854775807) : IntKind.i64.wrap n = n := IntWalk.i64_in n ⟨h1, h2⟩
theorem wrap_succ (i n : Nat) (h : i < n) (hn : n < 4611686018427387904) : IntKind.i64.wrap ((i : Int) + 1) = ((i + 1 : Nat) : Int) := by
  rw [wrap_in _ (by omega) (by omega)]; rfl

end Go.Gv
