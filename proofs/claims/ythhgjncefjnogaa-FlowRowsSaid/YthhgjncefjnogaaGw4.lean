/- Contracts of functions that change memory: what stays. No condition beyond those that each law names. -/
import Derived.Test.YthhgjncefjnogaaGw3
set_option linter.unusedVariables false
set_option linter.unusedSimpArgs false
namespace Go.Gv

/-- But for the names L all is as it was. -/
structure Fr (L : Nat → Bool) (S S' : St) : Prop where
  t : S'.t = S.t
  b : ∀ n, L n = false → S'.blk n = S.blk n
  k : ∀ n, L n = false → S'.tok n = S.tok n
  c : S.clk ≤ S'.clk
theorem Fr.refl (L : Nat → Bool) (S : St) : Fr L S S := ⟨rfl, fun _ _ => rfl, fun _ _ => rfl, Nat.le_refl _⟩
theorem Fr.trans {L : Nat → Bool} {S S' S'' : St} (h : Fr L S S') (k : Fr L S' S'') : Fr L S S'' :=
  ⟨k.t.trans h.t, fun n hn => (k.b n hn).trans (h.b n hn), fun n hn => (k.k n hn).trans (h.k n hn), Nat.le_trans h.c k.c⟩
theorem Fr.mono {L L' : Nat → Bool} (hl : ∀ n, L' n = false → L n = false) {S S' : St} (h : Fr L S S') : Fr L' S S' :=
  ⟨h.t, fun n hn => h.b n (hl n hn), fun n hn => h.k n (hl n hn), h.c⟩

/-- The blocks, tokens and the clock but for the names L (the slots are not looked at). -/
structure Fh (L : Nat → Bool) (S S' : St) : Prop where
  b : ∀ n, L n = false → S'.blk n = S.blk n
  k : ∀ n, L n = false → S'.tok n = S.tok n
  c : S.clk ≤ S'.clk
theorem Fh.refl (L : Nat → Bool) (S : St) : Fh L S S := ⟨fun _ _ => rfl, fun _ _ => rfl, Nat.le_refl _⟩
theorem Fh.trans {L : Nat → Bool} {S S' S'' : St} (h : Fh L S S') (k : Fh L S' S'') : Fh L S S'' :=
  ⟨fun n hn => (k.b n hn).trans (h.b n hn), fun n hn => (k.k n hn).trans (h.k n hn), Nat.le_trans h.c k.c⟩
theorem Fr.h {L : Nat → Bool} {S S' : St} (h : Fr L S S') : Fh L S S' := ⟨h.b, h.k, h.c⟩
theorem Fh.r {L : Nat → Bool} {S S' : St} (h : Fh L S S') (ht : S'.t = S.t) : Fr L S S' := ⟨ht, h.b, h.k, h.c⟩

theorem upd_out {α : Type} {L : Nat → Bool} {n : Nat} (hn : L n = false) {f : Nat → α} {i : Nat} {v : α} (hi : L i = true) : upd f i v n = f n :=
  upd_ne _ _ _ _ (fun e => by subst e; rw [hn] at hi; cases hi)
theorem Fh.step {L : Nat → Bool} {S S' : St} (h : Fh L S S') {t : Nat → AV} {b : Nat → Option Blk} {k : Nat → Option Tok} {c : Nat} (hb : ∀ n, L n = false → b n = S'.blk n) (hk : ∀ n, L n = false → k n = S'.tok n) (hc : S'.clk ≤ c) :
    Fh L S ⟨t, b, k, c⟩ := ⟨fun n hn => (hb n hn).trans (h.b n hn), fun n hn => (hk n hn).trans (h.k n hn), Nat.le_trans h.c hc⟩
theorem Fh.here {L : Nat → Bool} {S : St} {t : Nat → AV} {b : Nat → Option Blk} {k : Nat → Option Tok} {c : Nat} (hb : ∀ n, L n = false → b n = S.blk n) (hk : ∀ n, L n = false → k n = S.tok n) (hc : S.clk ≤ c) :
    Fh L S ⟨t, b, k, c⟩ := (Fh.refl L S).step hb hk hc

section
variable {k : IntKind} {n : Int} {b : Bool} {cs xs : List AV} {s : ByteArray} {nm st sz i off len o : Nat} {f : FuncId} {v : AV}
@[simp] theorem setCells_int : setCells (.int k n) o [v] = v := rfl
@[simp] theorem setCells_bool : setCells (.bool b) o [v] = v := rfl
@[simp] theorem setCells_str : setCells (.str s) o [v] = v := rfl
@[simp] theorem setCells_nils : setCells .nils o [v] = v := rfl
@[simp] theorem setCells_nilp : setCells .nilp o [v] = v := rfl
@[simp] theorem setCells_nilf : setCells .nilf o [v] = v := rfl
@[simp] theorem setCells_lst : setCells (.lst sz xs) o [v] = v := rfl
@[simp] theorem setCells_acc : setCells (.acc nm st sz xs) o [v] = v := rfl
@[simp] theorem setCells_sl : setCells (.sl nm st sz off len) o [v] = v := rfl
@[simp] theorem setCells_ptr : setCells (.ptr nm st sz i off) o [v] = v := rfl
@[simp] theorem setCells_kp : setCells (.kp cs off) o [v] = v := rfl
@[simp] theorem setCells_fn : setCells (.fn f cs) o [v] = v := rfl
end

theorem max_if (p q : Int) : (if q > p then q else p) = max p q := by rw [Int.max_def]; split <;> split <;> omega
theorem min_if (p q : Int) : (if q < p then q else p) = min p q := by rw [Int.min_def]; split <;> split <;> omega
@[simp] theorem mmI_nil (mx : Bool) (k : IntKind) (p : Int) : mmI mx k p [] = some p := rfl
@[simp] theorem mmI_max (k : IntKind) (p q : Int) (l : List AV) : mmI true k p (.int k q :: l) = mmI true k (max p q) l := by simp only [mmI, if_true, max_if]
@[simp] theorem mmI_min (k : IntKind) (p q : Int) (l : List AV) : mmI false k p (.int k q :: l) = mmI false k (min p q) l := by simp only [mmI, if_true, Bool.false_eq_true, if_false, min_if]

/-- The names of one function (or of some that follow one another). -/
def rng (a b : Nat) (n : Nat) : Bool := decide (a ≤ n) && decide (n < b)
end Go.Gv
