/- Walking regions whose order is drawn; calls of functions by their own abstract code. No condition beyond those that each law names. -/
import Derived.Test.YthhgjncefjnogaaGv19
set_option linter.unusedVariables false
set_option linter.unusedSimpArgs false
namespace Go.Gv

def chk (pre : List Nat) (log : List (AI × Fp)) (i : AI) (fp : Fp) : Bool := log.zipIdx.all fun p => pre.contains p.2 || apartI p.1.1 i p.1.2 fp

/-! ### Walking by rewriting: what comes behind is not looked into before it is reached -/

inductive Dep {α : Type} (a : α) : Type where
  | mk
inductive Dep2 (p q : Prop) : Type where
  | mk

def condG (b : Bool) (p q : Prop) (u : Dep2 p q) : Prop := if b = true then p else q
@[simp] theorem condG_true (p q : Prop) (u : Dep2 p q) : condG true p q u = p := by simp [condG]
@[simp] theorem condG_false (p q : Prop) (u : Dep2 p q) : condG false p q u = q := by simp [condG]
@[simp] theorem condG_not (b : Bool) (p q : Prop) (u : Dep2 p q) : condG (!b) p q u = condG b q p .mk := by cases b <;> simp
@[simp] theorem condG_and (a b : Bool) (p q : Prop) (u : Dep2 p q) : condG (a && b) p q u = condG a (condG b p q .mk) q .mk := by cases a <;> simp
@[simp] theorem condG_or (a b : Bool) (p q : Prop) (u : Dep2 p q) : condG (a || b) p q u = condG a p (condG b p q .mk) .mk := by cases a <;> simp
theorem split {P p q : Prop} {d : Decidable P} {u : Dep2 p q} (h1 : P → p) (h2 : ¬ P → q) : condG (decide P) p q u := by
  by_cases h : P
  · simpa [h] using h1 h
  · simpa [h] using h2 h
theorem condG_split {b : Bool} {p q : Prop} {u : Dep2 p q} (h1 : b = true → p) (h2 : b = false → q) : condG b p q u := by
  cases b with
  | true => simpa [condG] using h1 rfl
  | false => simpa [condG] using h2 rfl
def condA (v : AV) (p q : Prop) (u : Dep2 p q) : Prop := match v with
  | .bool b => condG b p q .mk
  | _ => False
@[simp] theorem condA_bool (b : Bool) (p q : Prop) (u : Dep2 p q) : condA (.bool b) p q u = condG b p q .mk := rfl
def guardG (v : Option Bool) (p q : Prop) (u : Dep2 p q) : Prop := match v with
  | some b => condG b p q .mk
  | none => False
@[simp] theorem guardG_some (b : Bool) (p q : Prop) (u : Dep2 p q) : guardG (some b) p q u = condG b p q .mk := rfl
def optG {α : Type} (o : Option α) (k : α → Prop) (u : Dep k) : Prop := match o with
  | some e => k e
  | none => False
@[simp] theorem optG_some {α : Type} (e : α) (k : α → Prop) (u : Dep k) : optG (some e) k u = k e := rfl
/-- An operation whose answer may not be known. -/
def opG (o : Option Eff) (b : Bool) (k : Eff → Prop) (u : Dep k) : Prop := match o with
  | some e => k e
  | none => b = true ∧ ∀ b : Bool, k { v := .bool b }
@[simp] theorem opG_false (o : Option Eff) (k : Eff → Prop) (u : Dep k) : opG o false k u = optG o k .mk := by cases o <;> simp [opG, optG]
@[simp] theorem opG_some (e : Eff) (b : Bool) (k : Eff → Prop) (u : Dep k) : opG (some e) b k u = k e := rfl
theorem opG_none (k : Eff → Prop) (u : Dep k) (h1 : k { v := .bool true }) (h2 : k { v := .bool false }) : opG none true k u := ⟨rfl, fun b => by cases b <;> assumption⟩
def CallG (P : Program) (fv : AV) (vals : List AV) (S : St) (k : AV → St → Prop) (u : Dep k) : Prop := CallP P fv vals S k
theorem call {P : Program} {f : FuncId} {cargs : List AV} {r : AV} (h : PC P f cargs r) {caps vals : List AV} {S : St} {k : AV → St → Prop} {u : Dep k} (hco : coL (co none) (vals ++ caps) cargs) (hk : k r S) : CallG P (.fn f caps) vals S k u :=
  call_of_pc h hco hk
theorem callH {P : Program} {f : FuncId} {cargs : List AV} {r : AV} (h : PC P f cargs r) {caps vals : List AV} {S : St} {k : AV → St → Prop} {u : Dep k} (hco : coL (co (some S.blk)) (vals ++ caps) cargs) (hflat : flat r = true) (hk : k r S) : CallG P (.fn f caps) vals S k u :=
  callH_of_pc h hco hflat hk
def callD (P : Program) (fv : AV) (vals : List AV) (k : AV → Prop) (u : Dep k) : Prop := ∃ r, PCallP P fv vals r ∧ k r
theorem calld {P : Program} {f : FuncId} {cargs : List AV} {r : AV} (h : PC P f cargs r) {caps vals : List AV} {k : AV → Prop} {u : Dep k} (hco : coL (co none) (vals ++ caps) cargs) (hk : k r) : callD P (.fn f caps) vals k u :=
  ⟨r, pcall_of_pc h hco, hk⟩
def LoopG (P : Program) (a : AC) (κ : Ex → St → Prop) (S : St) (u : Dep κ) : Prop := V P (.loop a) κ S
def regG (P : Program) (st : Nat) (l : List AI) (S : St) (k : St → Prop) (u : Dep k) : Prop := regV P st l k S
def regDG (P : Program) (pre : List (List Nat)) (st j : Nat) (l : List AI) (log : List (AI × Fp)) (S : St) (k : St → Prop) (u : Dep k) : Prop := regDV P pre st j l log k S
def seqK (P : Program) (b : AC) (κ : Ex → St → Prop) : Ex → St → Prop
  | .normal, S => V P b κ S
  | .exit i, S => κ (.exit i) S
  | .ret, S => κ .ret S
def blockK (id : Nat) (κ : Ex → St → Prop) : Ex → St → Prop
  | .normal, S => κ .normal S
  | .exit i, S => if i = id then κ .normal S else κ (.exit i) S
  | .ret, S => κ .ret S
@[simp ↓] theorem seqK_normal (P : Program) (b : AC) (κ : Ex → St → Prop) (S : St) : seqK P b κ .normal S = V P b κ S := rfl
@[simp ↓] theorem seqK_exit (P : Program) (b : AC) (κ : Ex → St → Prop) (i : Nat) (S : St) : seqK P b κ (.exit i) S = κ (.exit i) S := rfl
@[simp ↓] theorem seqK_ret (P : Program) (b : AC) (κ : Ex → St → Prop) (S : St) : seqK P b κ .ret S = κ .ret S := rfl
@[simp ↓] theorem blockK_normal (id : Nat) (κ : Ex → St → Prop) (S : St) : blockK id κ .normal S = κ .normal S := rfl
@[simp ↓] theorem blockK_exit (id : Nat) (κ : Ex → St → Prop) (i : Nat) (S : St) : blockK id κ (.exit i) S = condG (decide (i = id)) (κ .normal S) (κ (.exit i) S) .mk := by simp [blockK, condG]
@[simp ↓] theorem blockK_ret (id : Nat) (κ : Ex → St → Prop) (S : St) : blockK id κ .ret S = κ .ret S := rfl
@[simp ↓] theorem V_skip (P : Program) (κ : Ex → St → Prop) (S : St) : V P .skip κ S = κ .normal S := rfl
@[simp ↓] theorem V_exit (P : Program) (i : Nat) (κ : Ex → St → Prop) (S : St) : V P (.exit i) κ S = κ (.exit i) S := rfl
@[simp ↓] theorem V_ret (P : Program) (κ : Ex → St → Prop) (S : St) : V P .ret κ S = κ .ret S := rfl
@[simp ↓] theorem V_seq (P : Program) (a b : AC) (κ : Ex → St → Prop) (S : St) : V P (.seq a b) κ S = V P a (seqK P b κ) S := by
  refine congrArg (fun κ => V P a κ S) ?_
  funext e S; cases e <;> rfl
@[simp ↓] theorem V_block (P : Program) (id : Nat) (a : AC) (κ : Ex → St → Prop) (S : St) : V P (.block id a) κ S = V P a (blockK id κ) S := by
  refine congrArg (fun κ => V P a κ S) ?_
  funext e S; cases e <;> rfl
@[simp ↓] theorem V_condG (P : Program) (c : X) (a b : AC) (κ : Ex → St → Prop) (S : St) : V P (.cond c a b) κ S = condA (c.ev S.t) (V P a κ S) (V P b κ S) .mk := by
  simp only [V, condA, condG]
  cases c.ev S.t <;> rfl
@[simp ↓] theorem V_loopG (P : Program) (a : AC) (κ : Ex → St → Prop) (S : St) : V P (.loop a) κ S = LoopG P a κ S .mk := rfl
@[simp ↓] theorem V_regG (P : Program) (ops : List AI) (κ : Ex → St → Prop) (S : St) : V P (.reg ops) κ S = regG P S.clk ops (S.bump ops.length) (κ .normal) .mk := rfl
@[simp ↓] theorem V_regdG (P : Program) (ops : List AI) (pre : List (List Nat)) (κ : Ex → St → Prop) (S : St) : V P (.regd ops pre) κ S = regDG P pre S.clk 0 ops [] (S.bump ops.length) (κ .normal) .mk := rfl
def GhG (P : Program) (a : AC) (κ : Ex → St → Prop) (S : St) (u : Dep κ) : Prop := ∃ S', Wk S S' ∧ V P a κ S'
@[simp ↓] theorem V_ghG (P : Program) (a : AC) (κ : Ex → St → Prop) (S : St) : V P (.gh a) κ S = GhG P a κ S .mk := rfl
theorem ghost {P : Program} {a : AC} {κ : Ex → St → Prop} {S : St} {u : Dep κ} (S' : St) (h : Wk S S') (hv : V P a κ S') : GhG P a κ S u := ⟨S', h, hv⟩
@[simp] theorem regG_nil (P : Program) (st : Nat) (S : St) (k : St → Prop) (u : Dep k) : regG P st [] S k u = k S := rfl
theorem stepV_none (P : Program) (st : Nat) (d : Option Nat) (x : AK) (S : St) (k : St → Prop) : stepV P st ⟨d, none, x⟩ S k = runV P st ⟨d, none, x⟩ S k := by simp [stepV, guardV]
@[simp] theorem regG_op (P : Program) (st : Nat) (d : Option Nat) (o : AOp) (l : List AI) (S : St) (k : St → Prop) (u : Dep k) :
    regG P st (⟨d, none, .op o⟩ :: l) S k u = optG (ex S.t S.blk S.tok st o) (fun e => regG P (st + 1) l (S.app d e) k .mk) .mk := by
  simp only [regG, regV, stepV_none, runV, optG]
  cases ex S.t S.blk S.tok st o <;> rfl
@[simp] theorem regG_nq (P : Program) (st : Nat) (d : Option Nat) (kd : Nat) (neg : Bool) (x : X) (l : List AI) (S : St) (k : St → Prop) (u : Dep k) :
    regG P st (⟨d, none, .nq kd neg x⟩ :: l) S k u = opG (ex S.t S.blk S.tok st (.nilq kd neg x)) (undB S.t (.nilq kd neg x)) (fun e => regG P (st + 1) l (S.app d e) k .mk) .mk := by
  simp only [regG, regV, stepV_none, runV, opG]
  cases ex S.t S.blk S.tok st (.nilq kd neg x) <;> rfl
@[simp] theorem regG_call (P : Program) (st : Nat) (d : Option Nat) (f : X) (args : List X) (l : List AI) (S : St) (k : St → Prop) (u : Dep k) :
    regG P st (⟨d, none, .call f args⟩ :: l) S k u = CallG P (f.ev S.t) (args.map fun x => x.ev S.t) S (fun r S' => regG P (st + 1) l (S'.put d r) k .mk) .mk := by
  simp only [regG, regV, stepV_none]
  rfl
@[simp] theorem regG_guard (P : Program) (st : Nat) (d : Option Nat) (g : Nat × Bool) (o : AK) (l : List AI) (S : St) (k : St → Prop) (u : Dep k) :
    regG P st (⟨d, some g, o⟩ :: l) S k u = guardG (guardV S.t (some g)) (regG P st (⟨d, none, o⟩ :: l) S k .mk) (regG P (st + 1) l (S.put d (.tup [])) k .mk) .mk := by
  simp only [regG, regV, stepV, runV, guardG, condG]
  cases guardV S.t (some g) <;> simp [guardV]


@[simp] theorem regDG_nil (P : Program) (pre : List (List Nat)) (st j : Nat) (log : List (AI × Fp)) (S : St) (k : St → Prop) (u : Dep k) : regDG P pre st j [] log S k u = k S := rfl
@[simp] theorem regDG_op (P : Program) (pre : List (List Nat)) (st j : Nat) (d : Option Nat) (o : AOp) (l : List AI) (log : List (AI × Fp)) (S : St) (k : St → Prop) (u : Dep k) :
    regDG P pre st j (⟨d, none, .op o⟩ :: l) log S k u = optG (ex S.t S.blk S.tok st o) (fun e =>
      condG (chk (pre.getD j []) log ⟨d, none, .op o⟩ (fpOf S.t ⟨d, none, .op o⟩ e)) (regDG P pre (st + 1) (j + 1) l (log ++ [(⟨d, none, .op o⟩, fpOf S.t ⟨d, none, .op o⟩ e)]) (S.app d e) k .mk) False .mk) .mk := by
  apply propext
  constructor
  · rintro ⟨e, h1, h2, h3⟩
    have : ex S.t S.blk S.tok st o = some e := h1
    rw [this]
    have h2 : chk (pre.getD j []) log ⟨d, none, .op o⟩ (fpOf S.t ⟨d, none, .op o⟩ e) = true := h2
    simp only [optG, h2, condG_true]
    exact h3
  · intro h
    cases hx : ex S.t S.blk S.tok st o with
    | none => rw [hx] at h; exact h.elim
    | some e =>
      rw [hx] at h
      cases hc : chk (pre.getD j []) log ⟨d, none, .op o⟩ (fpOf S.t ⟨d, none, .op o⟩ e) with
      | true => simp only [optG, hc, condG_true] at h; exact ⟨e, hx, hc, h⟩
      | false => simp only [optG, hc, condG_false] at h
@[simp] theorem regDG_nq (P : Program) (pre : List (List Nat)) (st j : Nat) (d : Option Nat) (kd : Nat) (neg : Bool) (x : X) (l : List AI) (log : List (AI × Fp)) (S : St) (k : St → Prop) (u : Dep k) :
    regDG P pre st j (⟨d, none, .nq kd neg x⟩ :: l) log S k u = optG (ex S.t S.blk S.tok st (.nilq kd neg x)) (fun e =>
      condG (chk (pre.getD j []) log ⟨d, none, .nq kd neg x⟩ (fpOf S.t ⟨d, none, .nq kd neg x⟩ e)) (regDG P pre (st + 1) (j + 1) l (log ++ [(⟨d, none, .nq kd neg x⟩, fpOf S.t ⟨d, none, .nq kd neg x⟩ e)]) (S.app d e) k .mk) False .mk) .mk := by
  apply propext
  constructor
  · rintro ⟨e, h1, h2, h3⟩
    have : ex S.t S.blk S.tok st (.nilq kd neg x) = some e := h1
    rw [this]
    have h2 : chk (pre.getD j []) log ⟨d, none, .nq kd neg x⟩ (fpOf S.t ⟨d, none, .nq kd neg x⟩ e) = true := h2
    simp only [optG, h2, condG_true]
    exact h3
  · intro h
    cases hx : ex S.t S.blk S.tok st (.nilq kd neg x) with
    | none => rw [hx] at h; exact h.elim
    | some e =>
      rw [hx] at h
      cases hc : chk (pre.getD j []) log ⟨d, none, .nq kd neg x⟩ (fpOf S.t ⟨d, none, .nq kd neg x⟩ e) with
      | true => simp only [optG, hc, condG_true] at h; exact ⟨e, hx, hc, h⟩
      | false => simp only [optG, hc, condG_false] at h
@[simp] theorem regDG_call (P : Program) (pre : List (List Nat)) (st j : Nat) (d : Option Nat) (f : X) (args : List X) (l : List AI) (log : List (AI × Fp)) (S : St) (k : St → Prop) (u : Dep k) :
    regDG P pre st j (⟨d, none, .call f args⟩ :: l) log S k u = callD P (f.ev S.t) (args.map fun x => x.ev S.t) (fun r =>
      condG (chk (pre.getD j []) log ⟨d, none, .call f args⟩ (fpOf S.t ⟨d, none, .call f args⟩ ⟨r, [], []⟩)) (regDG P pre (st + 1) (j + 1) l (log ++ [(⟨d, none, .call f args⟩, fpOf S.t ⟨d, none, .call f args⟩ ⟨r, [], []⟩)]) (S.app d ⟨r, [], []⟩) k .mk) False .mk) .mk := by
  apply propext
  constructor
  · rintro ⟨e, ⟨r, h1, rfl⟩, h2, h3⟩
    refine ⟨r, h1, ?_⟩
    have h2 : chk (pre.getD j []) log ⟨d, none, .call f args⟩ (fpOf S.t ⟨d, none, .call f args⟩ ⟨r, [], []⟩) = true := h2
    simp only [h2, condG_true]
    exact h3
  · rintro ⟨r, h1, h⟩
    cases hc : chk (pre.getD j []) log ⟨d, none, .call f args⟩ (fpOf S.t ⟨d, none, .call f args⟩ ⟨r, [], []⟩) with
    | true => simp only [hc, condG_true] at h; exact ⟨_, ⟨r, h1, rfl⟩, hc, h⟩
    | false => simp only [hc, condG_false] at h
@[simp] theorem regDG_gop (P : Program) (pre : List (List Nat)) (st j : Nat) (d : Option Nat) (g : Nat × Bool) (o : AOp) (l : List AI) (log : List (AI × Fp)) (S : St) (k : St → Prop) (u : Dep k) :
    regDG P pre st j (⟨d, some g, .op o⟩ :: l) log S k u = guardG (guardV S.t (some g)) (optG (ex S.t S.blk S.tok st o) (fun e =>
      condG (chk (pre.getD j []) log ⟨d, some g, .op o⟩ (fpOf S.t ⟨d, some g, .op o⟩ e)) (regDG P pre (st + 1) (j + 1) l (log ++ [(⟨d, some g, .op o⟩, fpOf S.t ⟨d, some g, .op o⟩ e)]) (S.app d e) k .mk) False .mk) .mk)
      (condG (chk (pre.getD j []) log ⟨d, some g, .op o⟩ (fpOf S.t ⟨d, some g, .op o⟩ ⟨.tup [], [], []⟩)) (regDG P pre (st + 1) (j + 1) l (log ++ [(⟨d, some g, .op o⟩, fpOf S.t ⟨d, some g, .op o⟩ ⟨.tup [], [], []⟩)]) (S.app d ⟨.tup [], [], []⟩) k .mk) False .mk) .mk := by
  apply propext
  constructor
  · rintro ⟨e, h1, h2, h3⟩
    have h2 : chk (pre.getD j []) log ⟨d, some g, .op o⟩ (fpOf S.t ⟨d, some g, .op o⟩ e) = true := h2
    unfold Out at h1
    dsimp only at h1
    cases hg : guardV S.t (some g) with
    | none => rw [hg] at h1; exact h1.elim
    | some b =>
      rw [hg] at h1
      cases b with
      | true =>
        have h1 : ex S.t S.blk S.tok st o = some e := h1
        simp only [guardG_some, condG_true, h1, optG_some, h2]
        exact h3
      | false =>
        have h1 : e = ⟨.tup [], [], []⟩ := h1
        subst h1
        simp only [guardG_some, condG_false, condG_true, h2]
        exact h3
  · intro h
    cases hg : guardV S.t (some g) with
    | none => rw [hg] at h; exact h.elim
    | some b =>
      rw [hg] at h
      cases b with
      | true =>
        simp only [guardG_some, condG_true] at h
        cases hx : ex S.t S.blk S.tok st o with
        | none => rw [hx] at h; exact h.elim
        | some e =>
          rw [hx] at h
          simp only [optG_some] at h
          cases hc : chk (pre.getD j []) log ⟨d, some g, .op o⟩ (fpOf S.t ⟨d, some g, .op o⟩ e) with
          | true => simp only [hc, condG_true] at h; exact ⟨e, by unfold Out; dsimp only; rw [hg]; exact hx, hc, h⟩
          | false => simp only [hc, condG_false] at h
      | false =>
        simp only [guardG_some, condG_false] at h
        cases hc : chk (pre.getD j []) log ⟨d, some g, .op o⟩ (fpOf S.t ⟨d, some g, .op o⟩ ⟨.tup [], [], []⟩) with
        | true => simp only [hc, condG_true] at h; exact ⟨⟨.tup [], [], []⟩, by unfold Out; dsimp only; rw [hg]; rfl, hc, h⟩
        | false => simp only [hc, condG_false] at h
@[simp] theorem regDG_gnq (P : Program) (pre : List (List Nat)) (st j : Nat) (d : Option Nat) (g : Nat × Bool) (kd : Nat) (neg : Bool) (x : X) (l : List AI) (log : List (AI × Fp)) (S : St) (k : St → Prop) (u : Dep k) :
    regDG P pre st j (⟨d, some g, .nq kd neg x⟩ :: l) log S k u = guardG (guardV S.t (some g)) (optG (ex S.t S.blk S.tok st (.nilq kd neg x)) (fun e =>
      condG (chk (pre.getD j []) log ⟨d, some g, .nq kd neg x⟩ (fpOf S.t ⟨d, some g, .nq kd neg x⟩ e)) (regDG P pre (st + 1) (j + 1) l (log ++ [(⟨d, some g, .nq kd neg x⟩, fpOf S.t ⟨d, some g, .nq kd neg x⟩ e)]) (S.app d e) k .mk) False .mk) .mk)
      (condG (chk (pre.getD j []) log ⟨d, some g, .nq kd neg x⟩ (fpOf S.t ⟨d, some g, .nq kd neg x⟩ ⟨.tup [], [], []⟩)) (regDG P pre (st + 1) (j + 1) l (log ++ [(⟨d, some g, .nq kd neg x⟩, fpOf S.t ⟨d, some g, .nq kd neg x⟩ ⟨.tup [], [], []⟩)]) (S.app d ⟨.tup [], [], []⟩) k .mk) False .mk) .mk := by
  apply propext
  constructor
  · rintro ⟨e, h1, h2, h3⟩
    have h2 : chk (pre.getD j []) log ⟨d, some g, .nq kd neg x⟩ (fpOf S.t ⟨d, some g, .nq kd neg x⟩ e) = true := h2
    unfold Out at h1
    dsimp only at h1
    cases hg : guardV S.t (some g) with
    | none => rw [hg] at h1; exact h1.elim
    | some b =>
      rw [hg] at h1
      cases b with
      | true =>
        have h1 : ex S.t S.blk S.tok st (.nilq kd neg x) = some e := h1
        simp only [guardG_some, condG_true, h1, optG_some, h2]
        exact h3
      | false =>
        have h1 : e = ⟨.tup [], [], []⟩ := h1
        subst h1
        simp only [guardG_some, condG_false, condG_true, h2]
        exact h3
  · intro h
    cases hg : guardV S.t (some g) with
    | none => rw [hg] at h; exact h.elim
    | some b =>
      rw [hg] at h
      cases b with
      | true =>
        simp only [guardG_some, condG_true] at h
        cases hx : ex S.t S.blk S.tok st (.nilq kd neg x) with
        | none => rw [hx] at h; exact h.elim
        | some e =>
          rw [hx] at h
          simp only [optG_some] at h
          cases hc : chk (pre.getD j []) log ⟨d, some g, .nq kd neg x⟩ (fpOf S.t ⟨d, some g, .nq kd neg x⟩ e) with
          | true => simp only [hc, condG_true] at h; exact ⟨e, by unfold Out; dsimp only; rw [hg]; exact hx, hc, h⟩
          | false => simp only [hc, condG_false] at h
      | false =>
        simp only [guardG_some, condG_false] at h
        cases hc : chk (pre.getD j []) log ⟨d, some g, .nq kd neg x⟩ (fpOf S.t ⟨d, some g, .nq kd neg x⟩ ⟨.tup [], [], []⟩) with
        | true => simp only [hc, condG_true] at h; exact ⟨⟨.tup [], [], []⟩, by unfold Out; dsimp only; rw [hg]; rfl, hc, h⟩
        | false => simp only [hc, condG_false] at h
@[simp] theorem regDG_gcall (P : Program) (pre : List (List Nat)) (st j : Nat) (d : Option Nat) (g : Nat × Bool) (f : X) (args : List X) (l : List AI) (log : List (AI × Fp)) (S : St) (k : St → Prop) (u : Dep k) :
    regDG P pre st j (⟨d, some g, .call f args⟩ :: l) log S k u = guardG (guardV S.t (some g)) (callD P (f.ev S.t) (args.map fun x => x.ev S.t) (fun r =>
      condG (chk (pre.getD j []) log ⟨d, some g, .call f args⟩ (fpOf S.t ⟨d, some g, .call f args⟩ ⟨r, [], []⟩)) (regDG P pre (st + 1) (j + 1) l (log ++ [(⟨d, some g, .call f args⟩, fpOf S.t ⟨d, some g, .call f args⟩ ⟨r, [], []⟩)]) (S.app d ⟨r, [], []⟩) k .mk) False .mk) .mk)
      (condG (chk (pre.getD j []) log ⟨d, some g, .call f args⟩ (fpOf S.t ⟨d, some g, .call f args⟩ ⟨.tup [], [], []⟩)) (regDG P pre (st + 1) (j + 1) l (log ++ [(⟨d, some g, .call f args⟩, fpOf S.t ⟨d, some g, .call f args⟩ ⟨.tup [], [], []⟩)]) (S.app d ⟨.tup [], [], []⟩) k .mk) False .mk) .mk := by
  apply propext
  constructor
  · rintro ⟨e, h1, h2, h3⟩
    have h2 : chk (pre.getD j []) log ⟨d, some g, .call f args⟩ (fpOf S.t ⟨d, some g, .call f args⟩ e) = true := h2
    unfold Out at h1
    dsimp only at h1
    cases hg : guardV S.t (some g) with
    | none => rw [hg] at h1; exact h1.elim
    | some b =>
      rw [hg] at h1
      cases b with
      | true =>
        obtain ⟨r, h1, rfl⟩ := h1
        simp only [guardG_some, condG_true]
        refine ⟨r, h1, ?_⟩
        simp only [h2, condG_true]
        exact h3
      | false =>
        have h1 : e = ⟨.tup [], [], []⟩ := h1
        subst h1
        simp only [guardG_some, condG_false, condG_true, h2]
        exact h3
  · intro h
    cases hg : guardV S.t (some g) with
    | none => rw [hg] at h; exact h.elim
    | some b =>
      rw [hg] at h
      cases b with
      | true =>
        simp only [guardG_some, condG_true] at h
        obtain ⟨r, h1, h⟩ := h
        cases hc : chk (pre.getD j []) log ⟨d, some g, .call f args⟩ (fpOf S.t ⟨d, some g, .call f args⟩ ⟨r, [], []⟩) with
        | true => simp only [hc, condG_true] at h; exact ⟨⟨r, [], []⟩, by unfold Out; dsimp only; rw [hg]; exact ⟨r, h1, rfl⟩, hc, h⟩
        | false => simp only [hc, condG_false] at h
      | false =>
        simp only [guardG_some, condG_false] at h
        cases hc : chk (pre.getD j []) log ⟨d, some g, .call f args⟩ (fpOf S.t ⟨d, some g, .call f args⟩ ⟨.tup [], [], []⟩) with
        | true => simp only [hc, condG_true] at h; exact ⟨⟨.tup [], [], []⟩, by unfold Out; dsimp only; rw [hg]; rfl, hc, h⟩
        | false => simp only [hc, condG_false] at h

/-- A loop by a measure. -/
theorem loopM {P : Program} {a : AC} {κ : Ex → St → Prop} {S : St} {u : Dep κ} (I : Nat → St → Prop) (m : Nat) (h0 : I m S)
    (hs : ∀ m S', I m S' → V P a (Lp κ fun S'' => ∃ m', m' < m ∧ I m' S'') S') : LoopG P a κ S u := V_loop I m h0 hs
theorem loopMW {P : Program} {a : AC} {κ : Ex → St → Prop} {S : St} {u : Dep κ} (I : Nat → St → Prop) (m : Nat) (h0 : ∃ S1, Wk S S1 ∧ I m S1)
    (hs : ∀ m S', I m S' → V P a (Lp κ fun S'' => ∃ m' S2, m' < m ∧ Wk S'' S2 ∧ I m' S2) S') : LoopG P a κ S u := V_loopW I m h0 hs
theorem loopNW {P : Program} {a : AC} {κ : Ex → St → Prop} {S : St} {u : Dep κ} (J : Nat → St → Prop) (n : Nat) (h0 : ∃ S1, Wk S S1 ∧ J 0 S1)
    (hs : ∀ i S', i ≤ n → J i S' → V P a (Lp κ fun S'' => i < n ∧ ∃ S2, Wk S'' S2 ∧ J (i + 1) S2) S') : LoopG P a κ S u := V_countW J n h0 hs
/-- A loop that counts up. -/
theorem loopN {P : Program} {a : AC} {κ : Ex → St → Prop} {S : St} {u : Dep κ} (J : Nat → St → Prop) (n : Nat) (h0 : J 0 S)
    (hs : ∀ i S', i ≤ n → J i S' → V P a (Lp κ fun S'' => i < n ∧ J (i + 1) S'') S') : LoopG P a κ S u := V_count J n h0 hs

theorem sliceA_sl' {so : Option Nat} {nm st s off len : Nat} {lo hi : Option Nat} : sliceA so (.sl nm st s off len) lo hi = if so = some s ∧ lo.getD 0 ≤ hi.getD len ∧ hi.getD len ≤ len then some (.sl nm st s (off + lo.getD 0) (hi.getD len - lo.getD 0)) else none := rfl
theorem sliceA_lst' {so : Option Nat} {s : Nat} {xs : List AV} {lo hi : Option Nat} : sliceA so (.lst s xs) lo hi = if so = some s ∧ lo.getD 0 ≤ hi.getD xs.length ∧ hi.getD xs.length ≤ xs.length then some (.lst s ((xs.take (hi.getD xs.length)).drop (lo.getD 0))) else none := rfl
theorem sliceA_acc' {so : Option Nat} {nm st s : Nat} {xs : List AV} {lo hi : Option Nat} : sliceA so (.acc nm st s xs) lo hi = if so = some s ∧ lo.getD 0 ≤ hi.getD xs.length ∧ hi.getD xs.length ≤ xs.length then some (.lst s ((xs.take (hi.getD xs.length)).drop (lo.getD 0))) else none := rfl
theorem sliceA_nils' {so : Option Nat} {lo hi : Option Nat} : sliceA so .nils lo hi = if so ≠ none ∧ hi.getD 0 = 0 ∧ lo.getD 0 = 0 then some .nils else none := rfl
theorem sliceA_str' {so : Option Nat} {s : ByteArray} {lo hi : Option Nat} : sliceA so (.str s) lo hi = if so = none ∧ lo.getD 0 ≤ hi.getD s.size ∧ hi.getD s.size ≤ s.size then some (.str (s.extract (lo.getD 0) (hi.getD s.size))) else none := rfl
attribute [simp] sliceA_sl' sliceA_lst' sliceA_acc' sliceA_nils' sliceA_str'
attribute [simp] chk fpOf apartI Fp.apart disj AK.xs.eq_1 AK.xs.eq_2 AK.xs.eq_3 AI.slots rdV.eq_1 rdV.eq_2
attribute [simp] aopXs.eq_1 aopXs.eq_2 aopXs.eq_3 aopXs.eq_4 aopXs.eq_5 aopXs.eq_6 aopXs.eq_7 aopXs.eq_8 aopXs.eq_9 aopXs.eq_10 aopXs.eq_11 aopXs.eq_12 aopXs.eq_13 aopXs.eq_14 aopXs.eq_15 aopXs.eq_16 aopXs.eq_17 aopXs.eq_18 aopXs.eq_19 aopXs.eq_20 aopXs.eq_21 aopXs.eq_22 aopXs.eq_23 aopXs.eq_24 aopXs.eq_25 aopXs.eq_26 aopXs.eq_27 aopXs.eq_28 aopXs.eq_29 aopXs.eq_30 aopXs.eq_31 aopXs.eq_32
section
variable {k : IntKind} {n : Int} {b : Bool} {cs xs : List AV} {s : ByteArray} {nm st sz i off len : Nat} {f : FuncId}
@[simp] theorem rdV_int : rdV (.int k n) = [] := rfl
@[simp] theorem rdV_bool : rdV (.bool b) = [] := rfl
@[simp] theorem rdV_str : rdV (.str s) = [] := rfl
@[simp] theorem rdV_nils : rdV .nils = [] := rfl
@[simp] theorem rdV_nilp : rdV .nilp = [] := rfl
@[simp] theorem rdV_nilf : rdV .nilf = [] := rfl
@[simp] theorem rdV_lst : rdV (.lst sz xs) = [] := rfl
@[simp] theorem rdV_acc : rdV (.acc nm st sz xs) = [] := rfl
@[simp] theorem rdV_kp : rdV (.kp cs off) = [] := rfl
@[simp] theorem rdV_fn : rdV (.fn f cs) = [] := rfl
@[simp] theorem rdV_agg : rdV (.agg cs) = [] := rfl
@[simp] theorem rdV_tup : rdV (.tup cs) = [] := rfl
@[simp] theorem tkV_int : tkV (.int k n) = [] := rfl
@[simp] theorem tkV_bool : tkV (.bool b) = [] := rfl
@[simp] theorem tkV_str : tkV (.str s) = [] := rfl
@[simp] theorem tkV_nils : tkV .nils = [] := rfl
@[simp] theorem tkV_nilp : tkV .nilp = [] := rfl
@[simp] theorem tkV_nilf : tkV .nilf = [] := rfl
@[simp] theorem tkV_lst : tkV (.lst sz xs) = [] := rfl
@[simp] theorem tkV_acc : tkV (.acc nm st sz xs) = [nm] := rfl
@[simp] theorem tkV_kp : tkV (.kp cs off) = [] := rfl
@[simp] theorem tkV_fn : tkV (.fn f cs) = [] := rfl
@[simp] theorem tkV_agg : tkV (.agg cs) = [] := rfl
@[simp] theorem tkV_tup : tkV (.tup cs) = [] := rfl
@[simp] theorem tkV_ptr : tkV (.ptr nm st sz i off) = [] := rfl
@[simp] theorem tkV_sl : tkV (.sl nm st sz off len) = [] := rfl
end

/-! ### Spec of chapter 3 -/

def operandV (n : Int) : Int := if n = 1 then 1 else if n = 5 ∨ n = 6 then 2 else if n = 7 then 3 else if n = 20 ∨ n = 21 then 4 else if n = 22 then 5 else 0
theorem operandV_cases (n : Int) : operandV n = 0 ∨ operandV n = 1 ∨ operandV n = 2 ∨ operandV n = 3 ∨ operandV n = 4 ∨ operandV n = 5 := by unfold operandV; grind

def firstNZ : List Int → Int
  | [] => 0
  | x :: l => if x ≠ 0 then x else firstNZ l
theorem firstNZ_drop (l : List Int) (i : Nat) (h : i < l.length) : firstNZ (l.drop i) = if l[i] ≠ 0 then l[i] else firstNZ (l.drop (i + 1)) := by
  rw [List.drop_eq_getElem_cons h, firstNZ]
theorem firstNZ_end (l : List Int) (i : Nat) (h : l.length ≤ i) : firstNZ (l.drop i) = 0 := by rw [List.drop_of_length_le h]; rfl

def instrV (nh args n : Int) (i : Ins) : Int :=
  if ¬ (1 ≤ i.op ∧ i.op ≤ 25) ∨ (operandV i.op = 0 ∧ i.a ≠ 0) then 1
  else if operandV i.op = 4 ∧ (i.a < 0 ∨ i.a > n) then 4
  else if (operandV i.op = 2 ∧ (i.a < 0 ∨ i.a ≥ 8)) ∨ (operandV i.op = 3 ∧ (i.a < 0 ∨ i.a ≥ args)) then 6
  else if operandV i.op = 5 ∧ (i.a < 0 ∨ i.a ≥ nh) then 7 else 0

def handlerV (nh : Int) (h : Hnd) : Int :=
  if h.args < 0 ∨ h.args > 4 then 1 else if (h.code.length : Int) > 64 then 3 else firstNZ (h.code.map (instrV nh h.args h.code.length))

def actorV (hs : List Hnd) (a : Actr) : Int :=
  if (a.regs.length : Int) > 8 then 3 else if a.cap < 0 ∨ a.cap > 16 then 1
  else if a.timer ≠ -1 ∧ (a.timer < 0 ∨ a.timer ≥ hs.length ∨ (hs[a.timer.toNat]?.map Hnd.args).getD 0 ≠ 0) then 7
  else if a.armed = true ∧ a.timer = -1 then 1 else 0

def noteV (hs : List Hnd) (na : Int) (n : Nt) : Int :=
  if n.to < 0 ∨ n.to ≥ na ∨ n.hd < 0 ∨ n.hd ≥ hs.length then 7
  else if (n.args.length : Int) ≠ (hs[n.hd.toNat]?.map Hnd.args).getD 0 then 1 else 0

def checkV (p : Prg) : Int :=
  if (p.hs.length : Int) > 16 ∨ (p.as.length : Int) > 8 ∨ (p.boot.length : Int) > 16 then 3
  else if p.as.length = 0 ∨ p.fuel < 1 ∨ p.fuel > 256 then 1
  else if firstNZ (p.hs.map (handlerV p.hs.length)) ≠ 0 then firstNZ (p.hs.map (handlerV p.hs.length))
  else if firstNZ (p.as.map (actorV p.hs)) ≠ 0 then firstNZ (p.as.map (actorV p.hs))
  else firstNZ (p.boot.map (noteV p.hs p.as.length))

end Go.Gv
