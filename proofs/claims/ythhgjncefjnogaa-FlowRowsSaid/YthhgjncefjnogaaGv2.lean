/- Abstract operations, what each does to an abstract state, and how the model's operations are turned into them. Definitions only, no condition. -/
import Derived.Test.YthhgjncefjnogaaGv1
set_option linter.unusedVariables false
set_option linter.unusedSimpArgs false
namespace Go.Gv
open Go.RowKit

inductive X where
  | t (n : Nat)
  | c (v : AV)

inductive AOp where
  | mv (x : X)
  | pick (c a b : X)
  | new (nm sz : Nat) (z : AV)
  | box (nm sz : Nat) (x : X)
  | build (zero : List AV) (parts : List (Nat × Nat × X))
  | bsl (nm sz : Nat) (ty : TypeId) (len : Nat) (z : AV) (parts : List (Nat × X))
  | load (agg : Option Nat) (x : X)
  | store (n : Nat) (a x : X)
  | ibin (op : BinOp) (x y : X)
  | eqv (neg : Bool) (x y : X)
  | eqs (ks : List Bool) (neg : Bool) (x y : X)
  | not (x : X)
  | neg (x : X)
  | len (x : X)
  | slen (x : X)
  | app (nm sz : Nat) (ty : TypeId) (byt : Nat) (s x : X)
  | appw (nm sz : Nat) (ty : TypeId) (byt : Nat) (s x : X)
  | slice (sz : Option Nat) (x : X) (lo hi : Option X)
  | fld (off : Nat) (x : X)
  | getf (agg : Option Nat) (off : Nat) (x : X)
  | idx (sz : Nat) (x i : X)
  | ext (x : X) (i : Nat)
  | conv (k : IntKind) (x : X)
  | mkf (f : FuncId) (caps : List X)
  | msl (nm sz byt : Nat) (z : AV) (l : X)
  | mm (max : Bool) (x : X) (l : List X)
  | bslm (nm sz : Nat) (ty : TypeId) (len : Nat) (z : AV) (parts : List (Nat × X))
  | cpy (sz : Nat) (x y : X)
  | shift (l : Bool) (x y : X)
  | nilq (kd : Nat) (neg : Bool) (x : X)
  | nilck (x : X)
  | bad

/-- An operation, or a call. -/
inductive AK where
  | op (o : AOp)
  | call (f : X) (args : List X)
  | nq (kd : Nat) (neg : Bool) (x : X)

structure AI where
  dst : Option Nat
  g : Option (Nat × Bool)
  k : AK

inductive AC where
  | skip
  | seq (a b : AC)
  | cond (c : X) (a b : AC)
  | block (id : Nat) (a : AC)
  | loop (a : AC)
  | exit (id : Nat)
  | ret
  | reg (ops : List AI)
  | regd (ops : List AI) (pre : List (List Nat))
  | gh (a : AC)
  | bad

structure St where
  t : Nat → AV
  blk : Nat → Option Blk
  tok : Nat → Option Tok
  clk : Nat

def St.h (S : St) : Hp := ⟨S.blk, S.tok⟩

def X.ev (f : Nat → AV) : X → AV
  | .t n => f n
  | .c v => v

/-! ### What an operation does -/

structure Eff where
  v : AV
  wb : List (Nat × Option Blk) := []
  wt : List (Nat × Option Tok) := []

def appB : (Nat → Option Blk) → List (Nat × Option Blk) → (Nat → Option Blk)
  | f, [] => f
  | f, (n, b) :: l => appB (upd f n b) l
def appT : (Nat → Option Tok) → List (Nat × Option Tok) → (Nat → Option Tok)
  | f, [] => f
  | f, (n, b) :: l => appT (upd f n b) l

def Hp.app (h : Hp) (e : Eff) : Hp := ⟨appB h.blk e.wb, appT h.tok e.wt⟩

def getB (blk : Nat → Option Blk) (nm st sz : Nat) : Option (List AV) :=
  match blk nm with
  | some b => if b.st = st ∧ b.sz = sz then some b.es else none
  | none => none

/-- The element that an address lies in, and where. -/
def cellsAt (blk : Nat → Option Blk) : AV → Option (List AV × Nat)
  | .ptr nm st sz i off => (getB blk nm st sz).bind fun es => (es[i]?).map fun x => (x.cells, off)
  | .kp cs off => some (cs, off)
  | _ => none

def ldOne (blk : Nat → Option Blk) (a : AV) : Option AV := (cellsAt blk a).bind fun p => p.1[p.2]?
def ldAgg (blk : Nat → Option Blk) (n : Nat) (a : AV) : Option AV :=
  (cellsAt blk a).bind fun p => if p.2 + n ≤ p.1.length then some (.agg ((p.1.drop p.2).take n)) else none

def setCells (x : AV) (off : Nat) (vs : List AV) : AV :=
  match x with
  | .agg cs => .agg (cs.take off ++ vs ++ cs.drop (off + vs.length))
  | _ => match vs with
    | [v] => v
    | _ => .junk

/-- A list's elements. -/
def listOf (blk : Nat → Option Blk) (sz : Nat) : AV → Option (List AV)
  | .nils => some []
  | .lst s xs => if s = sz then some xs else none
  | .acc _ _ s xs => if s = sz then some xs else none
  | .sl nm st s off len => if s = sz then (getB blk nm st s).bind fun es => if off + len ≤ es.length ∧ (((es.drop off).take len).all fun x => x.cells.all AV.cl1) = true then some ((es.drop off).take len) else none else none
  | _ => none

def lenOf : AV → Option Nat
  | .nils => some 0
  | .lst _ xs => some xs.length
  | .acc _ _ _ xs => some xs.length
  | .sl _ _ _ _ len => some len
  | _ => none

/-- A list that may be appended to: its elements, its token. -/
def appBase (tok : Nat → Option Tok) (sz : Nat) (ty : TypeId) : AV → Option (List AV × Option Nat)
  | .nils => some ([], none)
  | .acc nm st s xs => match tok nm with
    | some t => if t.st = st ∧ t.sz = sz ∧ s = sz ∧ t.ty = ty then some (xs, some nm) else none
    | none => none
  | _ => none

/-- A list's elements, whatever they are. -/
def listM (blk : Nat → Option Blk) (sz : Nat) : AV → Option (List AV)
  | .nils => some []
  | .lst s xs => if s = sz then some xs else none
  | .acc _ _ s xs => if s = sz then some xs else none
  | .sl nm st s off len => if s = sz then (getB blk nm st s).bind fun es => if off + len ≤ es.length then some ((es.drop off).take len) else none else none
  | _ => none

/-- A list in a block of its own that may be appended to: its elements, its block. -/
def appwBase (blk : Nat → Option Blk) (sz : Nat) : AV → Option (List AV × Option Nat)
  | .nils => some ([], none)
  | .sl nm st s off len => if s = sz then (getB blk nm st s).bind fun es => if off + len ≤ es.length then some ((es.drop off).take len, some nm) else none else none
  | _ => none

/-- Is it nil? -/
def nilA : Nat → AV → Option Bool
  | 0, .nils => some true
  | 0, .lst _ (_ :: _) => some false
  | 0, .acc _ _ _ (_ :: _) => some false
  | 0, .sl _ _ _ _ len => if 0 < len then some false else none
  | 1, .nilp => some true
  | 1, .ptr _ _ _ _ _ => some false
  | 1, .kp _ _ => some false
  | 2, .nilf => some true
  | 2, .fn _ _ => some false
  | _, _ => none

/-- A cell as it stands in a list: a list that may be appended to is a list. -/
def norm1 : AV → AV
  | .acc _ _ sz xs => .lst sz xs
  | v => v
def normE : AV → AV
  | .agg cs => .agg (cs.map norm1)
  | v => norm1 v

def fillA (sz : Nat) : List AV → List (Nat × List AV) → Option (List AV)
  | cs, [] => some cs
  | cs, (off, vs) :: l => if off + vs.length ≤ cs.length ∧ vs.all AV.one = true then fillA sz (cs.take off ++ vs ++ cs.drop (off + vs.length)) l else none

def bitAnd (k : IntKind) (a b : Int) : Int := k.wrap (BitVec.ofInt k.bits a &&& BitVec.ofInt k.bits b).toNat
def bitOr (k : IntKind) (a b : Int) : Int := k.wrap (BitVec.ofInt k.bits a ||| BitVec.ofInt k.bits b).toNat
def bitXor (k : IntKind) (a b : Int) : Int := k.wrap (BitVec.ofInt k.bits a ^^^ BitVec.ofInt k.bits b).toNat
def bitAndNot (k : IntKind) (a b : Int) : Int := k.wrap (BitVec.ofInt k.bits a &&& ~~~BitVec.ofInt k.bits b).toNat
def shiftI (l : Bool) (k : IntKind) (a b : Int) : Int := if l = true then k.wrap (a * 2 ^ (min b.toNat k.bits)) else a.fdiv (2 ^ (min b.toNat k.bits))

def intBin (op : BinOp) (k : IntKind) (a b : Int) : Option AV :=
  match op with
  | .add => some (.int k (k.wrap (a + b)))
  | .sub => some (.int k (k.wrap (a - b)))
  | .mul => some (.int k (k.wrap (a * b)))
  | .quo => if b = 0 then none else some (.int k (k.wrap (a.tdiv b)))
  | .rem => if b = 0 then none else some (.int k (a.tmod b))
  | .and => some (.int k (bitAnd k a b))
  | .or => some (.int k (bitOr k a b))
  | .xor => some (.int k (bitXor k a b))
  | .andNot => some (.int k (bitAndNot k a b))
  | .eql => some (.bool (a == b))
  | .neq => some (.bool (a != b))
  | .lss => some (.bool (decide (a < b)))
  | .leq => some (.bool (decide (a ≤ b)))
  | .gtr => some (.bool (decide (a > b)))
  | .geq => some (.bool (decide (a ≥ b)))
  | _ => none

def eq1 : Bool → AV → AV → Option Bool
  | true, .bool a, .bool b => some (a == b)
  | false, .int k a, .int k' b => if k = k' then some (a == b) else none
  | _, _, _ => none
/-- Are two structs' cells alike? The first cell that differs decides. -/
def eqL : List Bool → List AV → List AV → Option Bool
  | [], [], [] => some true
  | k :: ks, x :: xs, y :: ys => match eq1 k x y with
    | some true => eqL ks xs ys
    | some false => some false
    | none => none
  | _, _, _ => none
def mmI (mx : Bool) (k : IntKind) : Int → List AV → Option Int
  | p, [] => some p
  | p, .int k' q :: l => if k = k' then mmI mx k (if mx = true then (if q > p then q else p) else (if q < p then q else p)) l else none
  | _, _ :: _ => none

def asNat : AV → Option Nat
  | .int _ n => if 0 ≤ n then some n.toNat else none
  | _ => none

def sliceA (sz : Option Nat) (v : AV) (lo hi : Option Nat) : Option AV :=
  match v with
  | .lst s xs => if sz = some s ∧ lo.getD 0 ≤ hi.getD xs.length ∧ hi.getD xs.length ≤ xs.length then some (.lst s ((xs.take (hi.getD xs.length)).drop (lo.getD 0))) else none
  | .acc _ _ s xs => if sz = some s ∧ lo.getD 0 ≤ hi.getD xs.length ∧ hi.getD xs.length ≤ xs.length then some (.lst s ((xs.take (hi.getD xs.length)).drop (lo.getD 0))) else none
  | .sl nm st s off len => if sz = some s ∧ lo.getD 0 ≤ hi.getD len ∧ hi.getD len ≤ len then some (.sl nm st s (off + lo.getD 0) (hi.getD len - lo.getD 0)) else none
  | .nils => if sz ≠ none ∧ hi.getD 0 = 0 ∧ lo.getD 0 = 0 then some .nils else none
  | .str s => if sz = none ∧ lo.getD 0 ≤ hi.getD s.size ∧ hi.getD s.size ≤ s.size then some (.str (s.extract (lo.getD 0) (hi.getD s.size))) else none
  | _ => none

def idxA (blk : Nat → Option Blk) (sz : Nat) (v : AV) (i : Nat) : Option AV :=
  match v with
  | .lst s xs => if s = sz then (xs[i]?).map fun x => .kp x.cells 0 else none
  | .acc _ _ s xs => if s = sz then (xs[i]?).map fun x => .kp x.cells 0 else none
  | .sl nm st s off len => if s = sz ∧ i < len then some (.ptr nm st s (off + i) 0) else none
  | _ => none

def optNat (f : Nat → AV) : Option X → Option (Option Nat)
  | none => some none
  | some x => (asNat (x.ev f)).map some

/-- What an operation other than a call does in an abstract state; 'st': the stamp of what it makes. -/
def ex (f : Nat → AV) (blk : Nat → Option Blk) (tok : Nat → Option Tok) (st : Nat) : AOp → Option Eff
  | .mv x => some { v := x.ev f }
  | .pick c a b => match c.ev f with
    | .bool t => some { v := if t = true then a.ev f else b.ev f }
    | _ => none
  | .new nm sz z => if z.cells.length = sz ∧ z.cells.all AV.one = true then some { v := .ptr nm st sz 0 0, wb := [(nm, some ⟨st, sz, [z]⟩)] } else none
  | .box nm sz x => if (x.ev f).cells.length = sz ∧ (x.ev f).cells.all AV.one = true then some { v := .ptr nm st sz 0 0, wb := [(nm, some ⟨st, sz, [x.ev f]⟩)] } else none
  | .build zero parts => if zero.all AV.one = true then (fillA 0 zero (parts.map fun p => (p.1, (p.2.2.ev f).cells))).bind fun cs =>
      if (parts.all fun p => (p.2.2.ev f).cells.length == p.2.1) = true then some { v := .agg cs } else none else none
  | .bsl nm sz ty len z parts => if (parts.all fun p => ((normE (p.2.ev f)).cells.length == sz) && (normE (p.2.ev f)).cells.all AV.cl1 && decide (p.1 < len)) = true ∧ z.cells.length = sz ∧ z.cells.all AV.cl1 = true then
      some { v := .acc nm st sz (parts.foldl (fun es p => es.set p.1 (normE (p.2.ev f))) (List.replicate len z)), wt := [(nm, some ⟨st, sz, ty⟩)] } else none
  | .load none x => (ldOne blk (x.ev f)).map fun v => { v := v }
  | .load (some n) x => (ldAgg blk n (x.ev f)).map fun v => { v := v }
  | .store n a x => match a.ev f with
    | .ptr nm s sz i off => (getB blk nm s sz).bind fun es => (es[i]?).bind fun e =>
        if (x.ev f).cells.length = n ∧ (x.ev f).cells.all AV.one = true ∧ off + n ≤ e.cells.length then
          some { v := .junk, wb := [(nm, some ⟨s, sz, es.set i (setCells e off (x.ev f).cells)⟩)] } else none
    | _ => none
  | .ibin op x y => match x.ev f, y.ev f with
    | .int k a, .int k' b => if k = k' then (intBin op k a b).map fun v => { v := v } else none
    | _, _ => none
  | .eqv neg x y => match x.ev f, y.ev f with
    | .bool a, .bool b => some { v := .bool (if neg = true then a != b else a == b) }
    | _, _ => none
  | .eqs ks neg x y => match x.ev f, y.ev f with
    | .agg xs, .agg ys => (eqL ks xs ys).map fun b => { v := .bool (if neg = true then !b else b) }
    | _, _ => none
  | .not x => match x.ev f with
    | .bool b => some { v := .bool (!b) }
    | _ => none
  | .neg x => match x.ev f with
    | .int k n => some { v := .int k (k.wrap (0 - n)) }
    | _ => none
  | .len x => (lenOf (x.ev f)).map fun (n : Nat) => { v := .int .i64 (n : Int) }
  | .slen x => match x.ev f with
    | .str s => some { v := .int .i64 s.size }
    | _ => none
  | .app nm sz ty byt s x => (appBase tok sz ty (s.ev f)).bind fun b => (listOf blk sz (x.ev f)).bind fun ys =>
      if (b.1.length + ys.length) * byt ≤ 140737488355328 then
        some { v := .acc nm st sz (b.1 ++ ys), wt := (match b.2 with | some n => [(n, none)] | none => []) ++ [(nm, some ⟨st, sz, ty⟩)] } else none
  | .appw nm sz ty byt s x => (appwBase blk sz (s.ev f)).bind fun b => (listM blk sz (x.ev f)).bind fun ys =>
      if (b.1.length + ys.length) * byt ≤ 140737488355328 then (if (b.2.isNone && ys.isEmpty) = true then some { v := .nils } else
        some { v := .sl nm st sz 0 (b.1.length + ys.length), wb := (match b.2 with | some n => [(n, none)] | none => []) ++ [(nm, some ⟨st, sz, b.1 ++ ys⟩)] }) else none
  | .slice sz x lo hi => (optNat f lo).bind fun l => (optNat f hi).bind fun h => (sliceA sz (x.ev f) l h).map fun v => { v := v }
  | .fld off x => match x.ev f with
    | .ptr nm s sz i o => some { v := .ptr nm s sz i (o + off) }
    | .kp cs o => some { v := .kp cs (o + off) }
    | _ => none
  | .getf none off x => match x.ev f with
    | .agg cs => (cs[off]?).map fun v => { v := v }
    | _ => none
  | .getf (some n) off x => match x.ev f with
    | .agg cs => if off + n ≤ cs.length then some { v := .agg ((cs.drop off).take n) } else none
    | _ => none
  | .idx sz x i => (asNat (i.ev f)).bind fun j => (idxA blk sz (x.ev f) j).map fun v => { v := v }
  | .ext x i => match x.ev f with
    | .tup vs => (vs[i]?).map fun v => { v := v }
    | _ => none
  | .conv k x => match x.ev f with
    | .int _ n => some { v := .int k (k.wrap n) }
    | _ => none
  | .mkf g caps => some { v := .fn g (caps.map fun x => x.ev f) }
  | .msl nm sz byt z l => (asNat (l.ev f)).bind fun n => if n * byt ≤ 140737488355328 ∧ z.cells.length = sz ∧ z.cells.all AV.one = true then
      some { v := .sl nm st sz 0 n, wb := [(nm, some ⟨st, sz, List.replicate n z⟩)] } else none
  | .mm mx x l => match x.ev f with
    | .int k p => (mmI mx k p (l.map fun y => y.ev f)).map fun r => { v := .int k r }
    | _ => none
  | .bslm nm sz ty len z parts => if (parts.all fun p => ((p.2.ev f).cells.length == sz) && (p.2.ev f).cells.all AV.one && decide (p.1 < len)) = true ∧ z.cells.length = sz ∧ z.cells.all AV.one = true then
      some { v := .sl nm st sz 0 len, wb := [(nm, some ⟨st, sz, parts.foldl (fun es p => es.set p.1 (p.2.ev f)) (List.replicate len z)⟩)] } else none
  | .cpy sz x y => match x.ev f with
    | .nils => (listM blk sz (y.ev f)).map fun _ => { v := .int .i64 0 }
    | .sl nm s sz' off len => if sz' = sz then (getB blk nm s sz).bind fun es => (listM blk sz (y.ev f)).bind fun ys =>
        if off + len ≤ es.length then some { v := .int .i64 ((min ys.length len : Nat) : Int), wb := [(nm, some ⟨s, sz, es.take off ++ ys.take (min ys.length len) ++ es.drop (off + min ys.length len)⟩)] } else none else none
    | _ => none
  | .shift l x y => match x.ev f, y.ev f with
    | .int k a, .int _ b => if b < 0 then none else some { v := .int k (shiftI l k a b) }
    | _, _ => none
  | .nilq kd neg x => (nilA kd (x.ev f)).map fun b => { v := .bool (if neg = true then !b else b) }
  | .nilck x => match x.ev f with
    | .ptr nm s sz i o => some { v := .ptr nm s sz i o }
    | .kp cs o => some { v := .kp cs o }
    | _ => none
  | .bad => none

/-- An empty list, of which it is not known whether it is nil. -/
def undV : AV → Bool
  | .lst _ [] => true
  | .acc _ _ _ [] => true
  | .sl _ _ _ _ 0 => true
  | _ => false
/-- An operation whose answer, yes or no, is not known. -/
def undB (f : Nat → AV) : AOp → Bool
  | .nilq 0 _ x => undV (x.ev f)
  | _ => false

/-- The blocks that an operation reads. -/
def rdV : AV → List Nat
  | .ptr nm _ _ _ _ => [nm]
  | .sl nm _ _ _ _ => [nm]
  | _ => []
def tkV : AV → List Nat
  | .acc nm _ _ _ => [nm]
  | _ => []

end Go.Gv
