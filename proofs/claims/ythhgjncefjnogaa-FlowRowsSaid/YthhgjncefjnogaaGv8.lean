/- How the model's operations are turned into abstract ones, and that each turned one is done. No condition beyond those that each law names. -/
import Derived.Test.YthhgjncefjnogaaGv7
set_option linter.unusedVariables false
set_option linter.unusedSimpArgs false
namespace Go.Gv
open Go.RowKit

def cX (n : Nat) : Operand → Option X
  | .tmp t => if t < n then some (.t t) else none
  | .const v => some (.c (ofC v))
  | .func f => some (.c (.fn f []))
  | .global _ => none

def cXs (n : Nat) : List Operand → Option (List X)
  | [] => some []
  | x :: l => (cX n x).bind fun x => (cXs n l).map fun l => x :: l

def cOptX (n : Nat) : Option Operand → Option (Option X)
  | none => some none
  | some x => (cX n x).map some

def isAggD : TypeDesc → Bool
  | .struct _ | .array _ _ => true
  | _ => false

/-- The nil of a type. -/
def nilOp (P : Program) (t : TypeId) : Operand → Option Nat
  | .const (.slice none 0 0) => match P.underlying t with | some (.slice _) => some 0 | _ => none
  | .const (.pointer none) => match P.underlying t with | some (.pointer _) => some 1 | _ => none
  | .const .nilFunc => match P.underlying t with | some (.func _ _ _) => some 2 | _ => none
  | _ => none

/-- A comparison with nil. -/
def nilCmp (P : Program) (n : Nat) : Op → Option (Nat × Bool × X)
  | .binOp op t x y _ => (nilOp P t y).bind fun kd => (cX n x).bind fun x => match op with
    | .eql => some (kd, false, x)
    | .neq => some (kd, true, x)
    | _ => none
  | _ => none

def cParts (n : Nat) : List (Nat × Operand) → Option (List (Nat × X))
  | [] => some []
  | p :: l => (cX n p.2).bind fun x => (cParts n l).map fun l => (p.1, x) :: l

def cFields (n : Nat) (places : List (Nat × Nat)) : List (Nat × Operand) → Option (List (Nat × Nat × X))
  | [] => some []
  | p :: l => (cX n p.2).bind fun x => (places[p.1]?).bind fun q => (cFields n places l).map fun l => (q.1, q.2, x) :: l

def placesOf (P : Program) (fs : List Field) : Option (List (Nat × Nat)) := fs.mapM fun f => (P.info? f.type).map fun i => (f.offset, i.size)

/-- Fields that are all whole numbers or bools, one cell each, in order; which are bools. -/
def scalarFields (P : Program) : Nat → List Field → Option (List Bool)
  | _, [] => some []
  | k, f :: l => if f.offset = k ∧ (f.name != "_") = true then match P.underlying f.type with
    | some (.int _) => (scalarFields P (k + 1) l).map fun r => false :: r
    | some .bool => (scalarFields P (k + 1) l).map fun r => true :: r
    | _ => none else none

def cOp (P : Program) (n nm : Nat) : Op → Option AOp
  | .move x => (cX n x).map .mv
  | .assign x => (cX n x).map .mv
  | .pick c a b => (cX n c).bind fun c => (cX n a).bind fun a => (cX n b).map fun b => .pick c a b
  | .alloc e => (P.info? e).bind fun i => i.zero.map fun z => .new nm i.size (ofC z)
  | .box e x => (cX n x).bind fun x => (P.info? e).map fun i => .box nm i.size x
  | .build t parts => match P.underlying t with
    | some (.struct fs) => (P.info? t).bind fun i => i.zero.bind fun z => (placesOf P fs.toList).bind fun places => (cFields n places parts.toList).map fun ps => .build (ofC z).cells ps
    | _ => none
  | .buildSlice t len parts => match P.underlying t with
    | some (.slice e) => (P.info? e).bind fun i => i.zero.bind fun z => if len * i.size ≤ 2 ^ 24 ∧ z.cells.size = i.size ∧ 0 < i.size then (cParts n parts.toList).map fun ps => if nm < 1000000000 then .bsl nm i.size e len (ofC z) ps else .bslm nm i.size e len (ofC z) ps else none
    | _ => none
  | .load t x => (cX n x).bind fun x => (P.underlying t).bind fun d => if isAggD d = true then (P.info? t).map fun i => .load (some i.size) x else some (.load none x)
  | .store t a x => (cX n a).bind fun a => (cX n x).bind fun x => (P.info? t).bind fun i => if 0 < i.size then some (.store i.size a x) else none
  | .binOp op t x y _ => (cX n x).bind fun x => (cX n y).bind fun y => match P.underlying t with
    | some (.int _) => match op with
      | .shl => some (.shift true x y)
      | .shr => some (.shift false x y)
      | _ => some (.ibin op x y)
    | some .bool => match op with
      | .eql => some (.eqv false x y)
      | .neq => some (.eqv true x y)
      | _ => none
    | some (.struct fs) => (scalarFields P 0 fs.toList).bind fun ks => if P.stoodInHeld t = false ∧ P.eqGuardType P.depth t = false then match op with
      | .eql => some (.eqs ks false x y)
      | .neq => some (.eqs ks true x y)
      | _ => none else none
    | _ => none
  | .nilCheck x => (cX n x).map .nilck
  | .unOp .not _ x => (cX n x).map .not
  | .unOp .neg _ x => (cX n x).map .neg
  | .convert src dst x => (cX n x).bind fun x => match P.underlying src, P.underlying dst with
    | some _, some (.int k) => some (.conv k x)
    | _, _ => none
  | .makeFunc (.func f) first caps => if first.size = 0 then (cXs n caps.toList).map fun l => .mkf f l else none
  | .makeSlice t (.tmp l) (.tmp c) => if l = c then match P.underlying t with
    | some (.slice e) => (P.info? e).bind fun i => i.zero.bind fun z => if 0 < i.bytes ∧ z.cells.size = i.size ∧ 0 < i.size then (cX n (.tmp l)).map fun l => .msl nm i.size i.bytes (ofC z) l else none
    | _ => none else none
  | .slice t x lo hi none => (cX n x).bind fun x => (cOptX n lo).bind fun lo => (cOptX n hi).bind fun hi => match P.underlying t with
    | some (.slice e) => (P.info? e).map fun i => .slice (some i.size) x lo hi
    | some .string => some (.slice none x lo hi)
    | _ => none
  | .fieldAddr s x f => (cX n x).bind fun x => match P.underlying s with
    | some (.struct fs) => (fs[f]?).bind fun fd => (P.info? fd.type).bind fun i => if i.size = 0 then none else some (.fld fd.offset x)
    | _ => none
  | .field t x f => (cX n x).bind fun x => match P.underlying t with
    | some (.struct fs) => (fs[f]?).bind fun fd => (P.underlying fd.type).bind fun d => (P.info? fd.type).map fun i => .getf (if isAggD d = true then some i.size else none) fd.offset x
    | _ => none
  | .indexAddr t x i => (cX n x).bind fun x => (cX n i).bind fun i => match P.underlying t with
    | some (.slice e) => (P.info? e).map fun ti => .idx ti.size x i
    | _ => none
  | .extract x i => (cX n x).map fun x => .ext x i
  | .call c => match c.callee with
    | .builtin .len => match c.args.toList, c.argTypes.toList with
      | [x], [t] => (cX n x).bind fun x => match P.underlying t with
        | some (.slice _) => some (.len x)
        | some .string => some (.slen x)
        | _ => none
      | _, _ => none
    | .builtin .append => match c.args.toList, c.argTypes.toList with
      | [s, x], [t, t'] => if t = t' then (cX n s).bind fun s => (cX n x).bind fun x => match P.underlying t with
        | some (.slice e) => (P.info? e).bind fun i => i.zero.bind fun z => if 0 < i.bytes ∧ z.cells.size = i.size ∧ 0 < i.size then (if nm < 1000000000 then some (.app nm i.size e i.bytes s x) else some (.appw nm i.size e i.bytes s x)) else none
        | _ => none else none
      | _, _ => none
    | .builtin .copy => match c.args.toList, c.argTypes.toList with
      | [x, y], [t, t'] => (cX n x).bind fun x => (cX n y).bind fun y => match P.underlying t, P.underlying t' with
        | some (.slice e), some (.slice _) => (P.info? e).map fun i => .cpy i.size x y
        | _, _ => none
      | _, _ => none
    | .builtin .max => match c.args.toList with
      | x :: l => (cX n x).bind fun x => (cXs n l).map fun l => .mm true x l
      | _ => none
    | .builtin .min => match c.args.toList with
      | x :: l => (cX n x).bind fun x => (cXs n l).map fun l => .mm false x l
      | _ => none
    | _ => none
  | _ => none

section
variable {P : Program} {B : Nat} {W : World} {E : Env} {h : Hp} {w : World} {a : Act} {f : Nat → AV} {n nm st : Nat}

theorem cX_ok (hf : ∀ t, t < n → Rel E (f t) (a.tmps.getD t undef)) {x : Operand} {y : X} (hx : cX n x = some y) : Rel E (y.ev f) (a.eval x) := by
  cases x with
  | tmp t =>
    simp only [cX] at hx
    split at hx
    · rename_i ht; cases hx; exact hf t ht
    · cases hx
  | const v => cases hx; exact Rel_ofC E v
  | func g => cases hx; exact .fn g [] #[] rfl (by simp)
  | global g => cases hx

theorem cXs_ok (hf : ∀ t, t < n → Rel E (f t) (a.tmps.getD t undef)) : ∀ (l : List Operand) (ys : List X), cXs n l = some ys →
    ys.length = l.length ∧ ∀ (j : Nat) (y : X) (x : Operand), ys[j]? = some y → l[j]? = some x → Rel E (y.ev f) (a.eval x)
  | [], ys, h => by cases h; simp
  | x :: l, ys, h => by
    simp only [cXs, Option.bind_eq_some_iff, Option.map_eq_some_iff] at h
    obtain ⟨y, hy, ys', hys, rfl⟩ := h
    obtain ⟨e1, e2⟩ := cXs_ok hf l ys' hys
    refine ⟨by simp [e1], fun j z u hz hu => ?_⟩
    cases j with
    | zero => simp at hz hu; subst hz hu; exact cX_ok hf hy
    | succ j => exact e2 j z u (by simpa using hz) (by simpa using hu)

theorem mv_done (H : HConc E B h w) (hW : Below B W w) (hf : ∀ t, t < n → Rel E (f t) (a.tmps.getD t undef)) (o : Oper) (x : Operand) (ho : o.op = .move x ∨ o.op = .assign x) (y : X) (hx : cX n x = some y) :
    Done B W E st ((execOp a.eval o).run P w) { v := y.ev f } h := by
  refine Done.pure H hW (v := a.eval x) ?_ (cX_ok hf hx)
  rcases ho with ho | ho <;> simp [execOp, ho]

theorem new_done (H : HConc E B h w) (hW : Below B W w) (hB : B ≤ w.heap.size) (hst : ¬ E.u st) (o : Oper) (e : TypeId) (ho : o.op = .alloc e) (i : TypeInfo) (z : Value) (hi : P.info? e = some i) (hz : i.zero = some z)
    (hl : (ofC z).cells.length = i.size) (h1 : (ofC z).cells.all AV.one = true) :
    Done B W E st ((execOp a.eval o).run P w) { v := .ptr nm st i.size 0 0, wb := [(nm, some ⟨st, i.size, [ofC z]⟩)] } h := by
  refine ⟨.pointer (some ⟨w.heap.size, 0, none⟩), w.alloc (.cells z.cells e), E.withM st (w.heap.size, 0) 1, .inl ?_, Env.le_withM hst _ _, fun s hs => hs.elim .inr .inl, fun _ _ _ => rfl, ?_, hW.alloc hB _, Rel.newPtr E w nm st i.size 1⟩
  · simp [execOp, ho, Instr.alloc, zeroValue, typeInfo, hi, hz, newVar, newRow]
  · exact H.newVar hB nm st i.size hst (ofC z) z e ⟨hl, by simpa using h1⟩ (Rel_ofC E z)

theorem box_done (H : HConc E B h w) (hW : Below B W w) (hB : B ≤ w.heap.size) (hst : ¬ E.u st) (o : Oper) (e : TypeId) (x : Operand) (ho : o.op = .box e x) (y : AV) (hy : Rel E y (a.eval x)) (sz : Nat)
    (hl : y.cells.length = sz) (h1 : y.cells.all AV.one = true) :
    Done B W E st ((execOp a.eval o).run P w) { v := .ptr nm st sz 0 0, wb := [(nm, some ⟨st, sz, [y]⟩)] } h := by
  refine ⟨.pointer (some ⟨w.heap.size, 0, none⟩), w.alloc (.cells (a.eval x).cells e), E.withM st (w.heap.size, 0) 1, .inl ?_, Env.le_withM hst _ _, fun s hs => hs.elim .inr .inl, fun _ _ _ => rfl, ?_, hW.alloc hB _, Rel.newPtr E w nm st sz 1⟩
  · simp [execOp, ho, Instr.box, newVar, newRow]
  · exact H.newVar hB nm st sz hst y (a.eval x) e ⟨hl, by simpa using h1⟩ hy

theorem pick_done (H : HConc E B h w) (hW : Below B W w) (o : Oper) (c x y : Operand) (ho : o.op = .pick c x y) (t : Bool) (hc : Rel E (.bool t) (a.eval c)) (vx vy : AV) (hx : Rel E vx (a.eval x)) (hy : Rel E vy (a.eval y)) :
    Done B W E st ((execOp a.eval o).run P w) { v := if t = true then vx else vy } h := by
  have ec := hc.bool_inv
  refine Done.pure H hW (v := if t = true then a.eval x else a.eval y) ?_ ?_
  · simp [execOp, ho, ec, asBool]
  · cases t <;> simpa

theorem load_done (H : HConc E B h w) (hW : Below B W w) (o : Oper) (t : TypeId) (x : Operand) (ho : o.op = .load t x) (v r : AV) (hx : Rel E v (a.eval x)) (d : TypeDesc) (ht : P.underlying t = some d)
    (hr : (isAggD d = false ∧ ldOne h.blk v = some r) ∨ (isAggD d = true ∧ ∃ i, P.info? t = some i ∧ ldAgg h.blk i.size v = some r)) :
    Done B W E st ((execOp a.eval o).run P w) { v := r } h := by
  have : ∃ u, (Instr.loadAt t (a.eval x)).run P w = .ok u w ∧ Rel E r u := by
    rcases hr with ⟨hd, hl⟩ | ⟨hd, i, hi, hl⟩
    · exact load_one H hx hl t d ht (by cases d <;> simp_all [isAggD])
    · exact load_agg H hx i.size hl t d i ht (by cases d <;> simp_all [isAggD]) hi rfl
  obtain ⟨u, hu, hrel⟩ := this
  exact Done.pure H hW (v := u) (by simp [execOp, ho, hu]) hrel

theorem int_done (H : HConc E B h w) (hW : Below B W w) (o : Oper) (op : BinOp) (t ty : TypeId) (x y : Operand) (ho : o.op = .binOp op t x y ty) (k : IntKind) (p q : Int) (hx : Rel E (.int k p) (a.eval x)) (hy : Rel E (.int k q) (a.eval y))
    (r : AV) (hr : intBin op k p q = some r) : Done B W E st ((execOp a.eval o).run P w) { v := r } h := by
  have ex := hx.int_inv
  have ey := hy.int_inv
  have hg : ∀ x y : Operand, (eqGuard op t x y (.int k p) (.int k q)).run P w = .ok () w := by
    intro x y; cases op <;> simp [eqGuard]
  cases op <;> simp only [intBin] at hr <;> (try (cases hr; done))
  case quo =>
    split at hr
    · cases hr
    · rename_i hq; cases hr
      exact Done.pure H hW (v := .int k (k.wrap (p.tdiv q))) (by simp [execOp, ho, ex, ey, hg, binOp, Op.intDiv, hq]) (.int _ _)
  case rem =>
    split at hr
    · cases hr
    · rename_i hq; cases hr
      exact Done.pure H hW (v := .int k (p.tmod q)) (by simp [execOp, ho, ex, ey, hg, binOp, Op.intDiv, hq]) (.int _ _)
  case and => cases hr; exact Done.pure H hW (v := .int k (bitAnd k p q)) (by simp [execOp, ho, ex, ey, hg, binOp, Op.intBits, bitAnd]) (.int _ _)
  case or => cases hr; exact Done.pure H hW (v := .int k (bitOr k p q)) (by simp [execOp, ho, ex, ey, hg, binOp, Op.intBits, bitOr]) (.int _ _)
  case xor => cases hr; exact Done.pure H hW (v := .int k (bitXor k p q)) (by simp [execOp, ho, ex, ey, hg, binOp, Op.intBits, bitXor]) (.int _ _)
  case andNot => cases hr; exact Done.pure H hW (v := .int k (bitAndNot k p q)) (by simp [execOp, ho, ex, ey, hg, binOp, Op.intBits, bitAndNot]) (.int _ _)
  case add => cases hr; exact Done.pure H hW (v := .int k (k.wrap (p + q))) (by simp [execOp, ho, ex, ey, hg, binOp, Op.intArith]) (.int _ _)
  case sub => cases hr; exact Done.pure H hW (v := .int k (k.wrap (p - q))) (by simp [execOp, ho, ex, ey, hg, binOp, Op.intArith]) (.int _ _)
  case mul => cases hr; exact Done.pure H hW (v := .int k (k.wrap (p * q))) (by simp [execOp, ho, ex, ey, hg, binOp, Op.intArith]) (.int _ _)
  case eql => cases hr; exact Done.pure H hW (v := .bool (p == q)) (by simp [execOp, ho, ex, ey, hg, binOp, Op.intCmp]) (.bool _)
  case neq => cases hr; exact Done.pure H hW (v := .bool (p != q)) (by simp [execOp, ho, ex, ey, hg, binOp, Op.intCmp]) (.bool _)
  case lss => cases hr; exact Done.pure H hW (v := .bool (decide (p < q))) (by simp [execOp, ho, ex, ey, hg, binOp, Op.intCmp]) (.bool _)
  case leq => cases hr; exact Done.pure H hW (v := .bool (decide (p ≤ q))) (by simp [execOp, ho, ex, ey, hg, binOp, Op.intCmp]) (.bool _)
  case gtr => cases hr; exact Done.pure H hW (v := .bool (decide (p > q))) (by simp [execOp, ho, ex, ey, hg, binOp, Op.intCmp]) (.bool _)
  case geq => cases hr; exact Done.pure H hW (v := .bool (decide (p ≥ q))) (by simp [execOp, ho, ex, ey, hg, binOp, Op.intCmp]) (.bool _)

theorem len_done (H : HConc E B h w) (hW : Below B W w) (o : Oper) (x : Operand) (t : TypeId) (ho : o.op = .call { callee := .builtin .len, args := #[x], argTypes := #[t] }) (v : AV) (hx : Rel E v (a.eval x))
    (k : Nat) (hk : lenOf v = some k) (e : TypeId) (ht : P.underlying t = some (.slice e)) :
    Done B W E st ((execOp a.eval o).run P w) { v := .int .i64 k } h := by
  have hs : ∃ ad cap, a.eval x = .slice ad k cap := by
    generalize a.eval x = u at hx
    cases v with
    | nils => simp [lenOf] at hk; subst hk; exact ⟨_, _, hx.nils_inv⟩
    | lst sz xs =>
      simp [lenOf] at hk; subst hk
      cases hx with
      | lst0 _ ad cap => exact ⟨ad, cap, rfl⟩
      | lst _ b o _ cap _ _ _ _ _ _ => exact ⟨_, cap, rfl⟩
    | acc nm st sz xs =>
      simp [lenOf] at hk; subst hk
      cases hx with
      | acc _ _ _ _ _ _ _ hl =>
        cases hl with
        | lst0 _ ad cap => exact ⟨ad, cap, rfl⟩
        | lst _ b o _ cap _ _ _ _ _ _ => exact ⟨_, cap, rfl⟩
    | sl nm st sz off len =>
      simp [lenOf] at hk; subst hk
      cases hx with
      | sl _ _ _ _ _ cap ad _ _ _ _ => exact ⟨ad, cap, rfl⟩
    | _ => simp [lenOf] at hk
  obtain ⟨ad, cap, e1⟩ := hs
  have hrun : (Builtin.len_ #[t] o.type #[a.eval x]).run P w = .ok (goInt k) w := by simp [e1, Builtin.len_, run_underlying ht]
  refine Done.pure H hW (v := goInt k) ?_ (.int _ _)
  simp [execOp, ho, resolve, invoke, builtin, hrun]

theorem slen_done (H : HConc E B h w) (hW : Below B W w) (o : Oper) (x : Operand) (t : TypeId) (ho : o.op = .call { callee := .builtin .len, args := #[x], argTypes := #[t] }) (s : ByteArray) (hx : Rel E (.str s) (a.eval x))
    (ht : P.underlying t = some .string) : Done B W E st ((execOp a.eval o).run P w) { v := .int .i64 s.size } h := by
  have hrun : (Builtin.len_ #[t] o.type #[a.eval x]).run P w = .ok (goInt s.size) w := by simp [hx.str_inv, Builtin.len_, run_underlying ht]
  refine Done.pure H hW (v := goInt s.size) ?_ (.int _ _)
  simp [execOp, ho, resolve, invoke, builtin, hrun]

theorem fld_done (H : HConc E B h w) (hW : Below B W w) (o : Oper) (s : TypeId) (x : Operand) (g : Nat) (ho : o.op = .fieldAddr s x g) (fs : Array Field) (hs : P.underlying s = some (.struct fs)) (fd : Field) (hfd : fs[g]? = some fd)
    (i : TypeInfo) (hi : P.info? fd.type = some i) (h0 : i.size ≠ 0) (v r : AV) (hx : Rel E v (a.eval x))
    (hr : (∃ nm st sz k off, v = .ptr nm st sz k off ∧ r = .ptr nm st sz k (off + fd.offset)) ∨ ∃ cs off, v = .kp cs off ∧ r = .kp cs (off + fd.offset)) :
    Done B W E st ((execOp a.eval o).run P w) { v := r } h := by
  have key : ∀ b q, a.eval x = .pointer (some ⟨b, q, none⟩) → (execOp a.eval o).run P w = .ok (.value (.pointer (some ⟨b, q + fd.offset, none⟩))) w := by
    intro b q e
    simp [execOp, ho, e, Instr.fieldAt, run_underlying hs, hfd, Instr.sureAddr, fieldPlace, sizeOf, typeInfo, hi, h0, Addr.add_mk]
  rcases hr with ⟨nm, st', sz, k, off, rfl, rfl⟩ | ⟨cs, off, rfl, rfl⟩
  · generalize hv : a.eval x = u at hx
    cases hx with
    | ptr _ _ _ _ _ hu =>
      refine Done.pure H hW (key _ _ hv) ?_
      rw [Nat.add_assoc]
      exact .ptr nm st' sz k (off + fd.offset) hu
  · generalize hv : a.eval x = u at hx
    cases hx with
    | kp _ _ b q fn hk h1 hr =>
      refine Done.pure H hW (key _ _ hv) ?_
      rw [Nat.add_assoc]
      exact .kp cs (off + fd.offset) b q fn hk h1 hr

end

end Go.Gv
