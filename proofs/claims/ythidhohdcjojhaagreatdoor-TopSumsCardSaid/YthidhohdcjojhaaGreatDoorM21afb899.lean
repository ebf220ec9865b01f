/- Texts of this proof, one behind the other. What is proved, and on which conditions, stands ahead of each. -/
import Derived.Test.YthidhohdcjojhaaGreatDoorProg
import Derived.Test.YthidhohdcjojhaaGreatDoorM20c6c7c0

set_option linter.unusedVariables false
set_option linter.unusedSimpArgs false
namespace Go.Gv
open Go.Proofs
def cloneM_c : AC := (.seq (.reg [oA 2 (.mv (.c .nils))]) (.seq (.seq (.reg [oM 3 0, ⟨(some 4), none, (.nq 0 false (.t 3))⟩]) (.cond (.t 4) (.seq (.reg [oA 2 (.mv (.c .nils))]) .ret) .skip)) (.seq (.reg [oA 5 (.bslm 1000163000 1 3 0 (.int .i64 0) []), oM 6 0, oA 7 (.appw 1000163000 1 3 8 (.t 5) (.t 6)), oM 2 7]) .ret)))
set_option maxRecDepth 100000 in
theorem cloneM_get : getF Tryz.prog 91 163000 [(5, 1000000000), (7, 1000000000)] = some ("slices.Clone[[]int,int]", 8, cloneM_c, [(.tmp 2)]) := by kernel_rfl
def mgo_l0 : AC := (.seq (.seq (.reg [oM 34 12, oH 35 34, oF 36 13 35, oL 37 36, oZ 38 .geq 37 0, oM 39 38, gM 40 39 true 12, oG 41 39 true (.nilck (.t 40)), gF 42 39 true 13 41, gL 43 39 true 42, gM 44 39 true 11, oG 45 39 true (.len (.t 44)), oG 46 39 true (.ibin .lss (.t 43) (.t 45)), oA 47 (.pick (.t 39) (.t 46) (.c (.bool false)))]) (.cond (.t 47) .skip (.exit 0))) (.block 1 (.seq (.reg [oI 14 2]) (.seq (.seq (.reg [oM 48 13, oF 49 3 5, oL 50 49, oB 51 .lss 48 50]) (.cond (.t 51) (.seq (.reg [oM 52 13, oZ 53 .add 52 1, oM 13 53]) (.reg [oM 54 12, oM 55 11, oM 56 12, oH 57 56, oF 58 13 57, oL 59 58, oA 60 (.idx 2 (.t 55) (.t 59)), oA 61 (.load (some 2) (.t 60)), oC 62 (.c (.fn 216 [])) [(.t 54), (.t 61)], oM 14 62])) .skip)) (.seq (.reg [oM 63 14, oZ 64 .neq 63 0]) (.cond (.t 64) (.seq (.reg [oF 65 0 7, oL 66 65, oC 67 (.c (.fn 91 [])) [(.t 66)], oM 68 14, oF 69 0 7, oN (.store 1 (.t 69) (.t 67)), oF 70 2 7, oN (.store 1 (.t 70) (.t 68))]) (.seq (.reg [oA 71 (.load (some 5) (.t 7)), oM 72 13, oA 73 (.build [.nils, (.bool false), (.int .i64 0), (.int .i64 0), (.int .i64 0), .nils, (.int .i64 0)] [(0, (5, (.t 71))), (6, (1, (.t 72)))]), oN (.store 7 (.t 10) (.t 73))]) .ret)) .skip))))))
def mgo_c : AC := (.seq (.reg [oA 5 (.box 84005 4 (.t 0)), oA 7 (.box 84007 5 (.t 2)), oA 10 (.new 84010 7 (.agg [.nils, (.bool false), (.int .i64 0), (.int .i64 0), (.int .i64 0), .nils, (.int .i64 0)]))]) (.seq (.reg [oF 15 0 5, oL 16 15, oM 17 3, oA 18 (.idx 2 (.t 16) (.t 17)), oF 19 1 18, oL 20 19, oM 11 20]) (.seq (.reg [oA 21 (.load (some 4) (.t 5)), oM 22 1, oM 23 4, oA 24 (.load (some 5) (.t 7)), oA 25 (.build [.nils, .nils, .nils, (.int .i64 0), (.int .i64 0), .nils, .nils, (.bool false), (.int .i64 0), (.int .i64 0), (.int .i64 0), .nils, .nils, (.int .i64 0)] [(0, (4, (.t 21))), (4, (1, (.t 22))), (5, (1, (.t 23))), (6, (5, (.t 24)))]), oA 26 (.box 84026 14 (.t 25)), oM 12 26]) (.seq (.reg [oM 27 12, oF 28 0 7, oL 29 28, oC 30 (.c (.fn 91 [])) [(.t 29)], oH 31 27, oF 32 6 31, oF 33 0 32, oN (.store 1 (.t 33) (.t 30))]) (.seq (.reg [oI 13 0]) (.seq (.block 0 (.loop mgo_l0)) (.seq (.regd [oM 74 12, oH 75 74, oF 76 6 75, oF 77 3 76, oL 78 77, oM 79 12, oH 80 79, oF 81 12 80, oL 82 81, oK 83 82, oB 84 .add 78 83, oH 85 74, oF 86 6 85, oF 87 3 86, oN (.store 1 (.t 87) (.t 84))] [[], [0], [1, 0], [2, 1, 0], [3, 2, 1, 0], [], [5], [6, 5], [7, 6, 5], [8, 7, 6, 5], [4, 9, 3, 2, 1, 0, 8, 7, 6, 5], [0, 1, 2, 3, 4, 5, 6, 7, 8, 9, 10], [11, 0, 1, 2, 3, 4, 5, 6, 7, 8, 9, 10], [12, 0, 1, 2, 3, 4, 5, 6, 7, 8, 9, 10, 11], [13, 10, 0, 1, 2, 3, 4, 5, 6, 7, 8, 9, 12, 11]]) (.seq (.regd [oM 88 12, oH 89 88, oF 90 6 89, oA 91 (.load (some 5) (.t 90)), oM 92 12, oH 93 92, oF 94 12 93, oL 95 94, oM 96 13, oA 97 (.build [.nils, (.bool false), (.int .i64 0), (.int .i64 0), (.int .i64 0), .nils, (.int .i64 0)] [(0, (5, (.t 91))), (5, (1, (.t 95))), (6, (1, (.t 96)))]), oN (.store 7 (.t 10) (.t 97))] [[], [0], [1, 0], [2, 1, 0], [], [4], [5, 4], [6, 5, 4], [], [3, 7, 8, 2, 1, 0, 6, 5, 4], [9, 0, 1, 2, 3, 4, 5, 6, 7, 8]]) .ret))))))))
set_option maxRecDepth 100000 in
theorem mgo_get : getF Tryz.prog 184 84000 [] = some ("gavotte/vm.Go", 98, mgo_c, [(.cell (some 7) 10)]) := by kernel_rfl
theorem clonem_v (l : List Int) (hl : l.length <= 1000) {S : St} {k : AV -> St -> Prop} {u : Dep k}
   (hk : ∀ v S', Fr Lm S S' -> S'.blk 84026 = S.blk 84026 -> RegIs S' v l -> k v S') : CallG Tryz.prog (.fn 91 []) [ints l] S k u := by
 refine callV cloneM_get (by simp) (by simp) ?_
 unfold cloneM_c
 cases l with
 | nil =>
   simp [ints]
   refine opG_none _ _ ?_ ?_
   . simp
     exact hk _ _ (Fr.here (fun n hn => by simp [ne_of_Lm hn, Lm]) (fun n hn => by first | rfl | simp [ne_of_Lm hn, Lm]) (by omega)) rfl (.inl ⟨rfl, rfl⟩)
   . simp
     exact hk _ _ (Fr.here (fun n hn => by simp [ne_of_Lm hn, Lm]) (fun n hn => by first | rfl | simp [ne_of_Lm hn, Lm]) (by omega)) (by simp) (.inr ⟨_, rfl, by simp⟩)
 | cons x l =>
   simp at hl
   simp [ints, show (l.length + 1) * 8 <= 140737488355328 by omega]
   exact hk _ _ (Fr.here (fun n hn => by simp [ne_of_Lm hn, Lm]) (fun n hn => by first | rfl | simp [ne_of_Lm hn, Lm]) (by omega)) (by simp) (.inr ⟨_, rfl, by simp⟩)
theorem RegIs.out {S : St} {v : AV} {xs : List Int} (h : RegIs S v xs) : v.one = true /\ v.cells = [v] := by
 rcases h with ⟨rfl, _⟩ | ⟨st, rfl, _⟩ <;> exact ⟨rfl, rfl⟩
def runG (F : Fx) (code : List Ins) : Nat -> Mach -> Int -> Option Mach × Int × Int
 | 0, m, s => (none, 2, s)
 | f + 1, m, s =>
   if 0 <= m.pc /\ m.pc < code.length then
     (if s < F.p.fuel then
       (match code[m.pc.toNat]? with
        | some i => if (doV F i m).2 ≠ 0 then (none, (doV F i m).2, s + 1) else runG F code f (doV F i m).1 (s + 1)
        | none => (none, 2, s))
      else (none, 2, s))
   else (some m, 0, s)
structure Res where
 l : Lcl
 notes : List Nt
 steps : Int
def Res.av (r : Res) : AV := .agg [ints r.l.regs, .bool r.l.armed, iv r.l.down, iv r.l.sent, iv r.l.over, .lst 3 (r.notes.map Nt.av), iv r.steps]
def fxOf (p : Prg) (who : Int) (l : Lcl) (args : List Int) : Fx := ⟨p, who, args, l.down, l.sent, l.over, ints args⟩
def m0Of (l : Lcl) : Mach := ⟨0, [], l.regs, [], l.armed⟩
def goR (l : Lcl) : Option Mach × Int × Int -> Res
 | (some m, _, s) => ⟨⟨m.regs, m.armed, l.down, w64 (l.sent + m.notes.length), l.over⟩, m.notes, s⟩
 | (none, d, s) => ⟨{ l with down := d }, [], s⟩
def RunOk (F : Fx) (code : List Ins) : Nat -> Mach -> Int -> Prop
 | 0, _, _ => True
 | f + 1, m, s => (0 <= m.pc /\ m.pc < code.length) -> s < F.p.fuel -> ∀ i, code[m.pc.toNat]? = some i -> DoOk F i m /\ ((doV F i m).2 = 0 -> RunOk F code f (doV F i m).1 (s + 1))
theorem ite_notes {c : Prop} [Decidable c] {a b : Mach × Int} {n : Nat} (h1 : a.1.notes.length <= n) (h2 : b.1.notes.length <= n) : (if c then a else b).1.notes.length <= n := by
 by_cases h : c
 . rw [if_pos h]; exact h1
 . rw [if_neg h]; exact h2
theorem doV_notes (F : Fx) (i : Ins) (m : Mach) : (doV F i m).1.notes.length <= m.notes.length + 1 := by
 unfold doV
 repeat' apply ite_notes
 all_goals simp
def GI (F : Fx) (p : Prg) (l : Lcl) (x : Hnd) (R : Option Mach × Int × Int) (f : Nat) (S : St) : Prop :=
 ∃ m s, MS F 15 m S /\ S.t 12 = .ptr 84026 15 14 0 0 /\ S.t 13 = iv s /\ S.t 11 = .lst 2 (x.code.map Ins.av) /\ S.t 5 = .ptr 84005 0 4 0 0 /\ S.t 7 = .ptr 84007 1 5 0 0 /\ S.t 10 = .ptr 84010 2 7 0 0 /\
   S.blk 84005 = some ⟨0, 4, [p.av]⟩ /\ S.blk 84007 = some ⟨1, 5, [l.av]⟩ /\ S.blk 84010 = some ⟨2, 7, [.agg [.nils, .bool false, iv 0, iv 0, iv 0, .nils, iv 0]]⟩ /\ 0 <= s /\ s <= p.fuel /\ (f : Int) = p.fuel - s + 1 /\ runG F x.code f m s = R /\ RunOk F x.code f m s /\ (m.notes.length : Int) <= s
theorem go_pc (p : Prg) (who : Int) (l : Lcl) (h : Int) (args : List Int) (x : Hnd) (h0 : 0 <= h) (hx : p.hs[h.toNat]? = some x) (hf : 0 <= p.fuel /\ p.fuel <= 1000) (hl : l.regs.length <= 1000)
   (hok : RunOk (fxOf p who l args) x.code (p.fuel.toNat + 1) (m0Of l) 0) : PC Tryz.prog 184 [p.av, iv who, l.av, iv h, ints args] (goR l (runG (fxOf p who l args) x.code (p.fuel.toNat + 1) (m0Of l) 0)).av := by
 refine pc_of_get mgo_get (by simp) _ (by simp) _ ?_
 unfold mgo_c
 simp [h0, hx]
 simp [Lcl.av]
 refine clonem_v l.regs hl ?_
 rintro v S1 ⟨ht1, hb1, hk1, hc1⟩ hM hR
 simp at hM
 have hp : S1.blk 84005 = some ⟨0, 4, [p.av]⟩ := by rw [hb1 84005 rfl]; simp [Prg.av]
 have hq : S1.blk 84007 = some ⟨1, 5, [l.av]⟩ := by rw [hb1 84007 rfl]; simp [Lcl.av]
 have hz : S1.blk 84010 = some ⟨2, 7, [.agg [.nils, .bool false, iv 0, iv 0, iv 0, .nils, iv 0]]⟩ := by rw [hb1 84010 rfl]; simp
 obtain ⟨v1, v2⟩ := hR.out
 simp [ht1, hM, v1, v2]
 generalize hF : fxOf p who l args = F at *
 generalize hRR : runG F x.code (p.fuel.toNat + 1) (m0Of l) 0 = R at *
 refine loopM (GI F p l x R) (p.fuel.toNat + 1) ?_ ?_
 . refine ⟨m0Of l, 0, ?_, by simp, by simp, by simp, by simp, by simp, by simp, by simp [hp], by simp [hq], by simp [hz], by omega, by omega, by omega, hRR, hok, by simp [m0Of]⟩
   subst hF
   refine MS.mk' (upd_same _ _ _) ?_ (.inl ⟨rfl, rfl⟩) (.inl ⟨rfl, rfl⟩)
   simpa [RegIs, m0Of] using hR
 . clear hR hM hp hq hz hb1 hk1 hc1 ht1 S1 hRR hok
   rintro f S ⟨m, s, hMS, g12, g13, g11, g5, g7, g10, b5, b7, b10, s0, s1, hfs, hrun, hok, hnl⟩
   obtain ⟨f, rfl⟩ : ∃ f', f = f' + 1 := ⟨f - 1, by omega⟩
   obtain ⟨r, sk, nt, hb, hr, hs, hn⟩ := hMS
   by_cases hpc : 0 <= m.pc /\ m.pc < x.code.length
   . by_cases hsf : s < p.fuel
     . have hat : m.pc.toNat < x.code.length := by omega
       have hget : x.code[m.pc.toNat]? = some x.code[m.pc.toNat] := List.getElem?_eq_getElem hat
       have hpf : F.p.fuel = p.fuel := by rw [<- hF]; rfl
       obtain ⟨hdo, hnx⟩ := hok hpc (by rw [hpf]; exact hsf) _ hget
       have ws : IntKind.i64.wrap (s + 1) = s + 1 := wrap_in _ (by omega) (by omega)
       have hstep : runG F x.code (f + 1) m s = if (doV F x.code[m.pc.toNat] m).2 ≠ 0 then (none, (doV F x.code[m.pc.toNat] m).2, s + 1) else runG F x.code f (doV F x.code[m.pc.toNat] m).1 (s + 1) := by
         rw [runG, if_pos hpc, if_pos (by rw [hpf]; exact hsf), hget]
       rw [hstep] at hrun
       simp [mgo_l0, g12, g13, g11, g5, b5, hb, hpc, hsf, ws, hat]
       refine do_v F 15 m x.code[m.pc.toNat] hdo (.inl (by rw [<- hF]; rfl)) (MS.to ⟨r, sk, nt, hb, hr, hs, hn⟩) ?_
       rintro S1 ⟨ht1, hb1, hk1, hc1⟩ hM1
       have c5 : S1.blk 84005 = some ⟨0, 4, [p.av]⟩ := by rw [hb1 84005 rfl]; simpa using b5
       have c7 : S1.blk 84007 = some ⟨1, 5, [l.av]⟩ := by rw [hb1 84007 rfl]; simpa using b7
       have c10 : S1.blk 84010 = some ⟨2, 7, [.agg [.nils, .bool false, iv 0, iv 0, iv 0, .nils, iv 0]]⟩ := by rw [hb1 84010 rfl]; simpa using b10
       by_cases hd : (doV F x.code[m.pc.toNat] m).2 = 0
       . rw [if_neg (by rw [hd]; simp)] at hrun
         simp [ht1, hd, g12, g11, g5, g7, g10]
         exact ⟨f, by omega, _, s + 1, hM1.to, by simp [g12], by simp, by simp [g11], by simp [g5], by simp [g7], by simp [g10], c5, c7, c10, by omega, by omega, by omega, hrun, hnx hd, by have := doV_notes F x.code[m.pc.toNat] m; omega⟩
       . rw [if_pos hd] at hrun
         simp [ht1, hd, g12, g11, g5, g7, g10, c7]
         refine call (cloneInts_pc l.regs hl) (by simp) ?_
         simp [ht1, g7, g10, c7, c10, Lcl.av]
         rw [<- hrun]
         simp [goR, Res.av]
     . have hrn : runG F x.code (f + 1) m s = (none, 2, s) := by
         have hpf : F.p.fuel = p.fuel := by rw [<- hF]; rfl
         rw [runG, if_pos hpc, if_neg (by rw [hpf]; exact hsf)]
       rw [hrn] at hrun
       simp [mgo_l0, g12, g13, g11, g5, g7, b5, b7, hb, hpc, hsf, Lcl.av]
       refine call (cloneInts_pc l.regs hl) (by simp) ?_
       simp [g7, g10, g13, b7, b10, Lcl.av]
       rw [<- hrun]
       simp [goR, Res.av]
   . have hrn : runG F x.code (f + 1) m s = (some m, 0, s) := by rw [runG, if_neg hpc]
     rw [hrn] at hrun
     have hli : ∀ st blk, blk 1000163000 = some ⟨st, 1, m.regs.map iv⟩ -> listOf blk 1 (.sl 1000163000 st 1 0 m.regs.length) = some (m.regs.map iv) := fun st blk hb => list_ints m.regs blk 1000163000 st hb
     have f1 : F.d = l.down := by rw [<- hF]; rfl
     have f2 : F.s = l.sent := by rw [<- hF]; rfl
     have f3 : F.o = l.over := by rw [<- hF]; rfl
     by_cases h1 : 0 <= m.pc
     . rcases hr with ⟨rfl, e⟩ | ⟨sr, rfl, hr⟩ <;> rcases hn with ⟨rfl, e'⟩ | ⟨sn, rfl, hn⟩
       . simp [mgo_l0, g12, g11, g10, g13, b10, hb, h1, show ¬ m.pc < x.code.length by omega]
         rw [<- hrun]
         simp [goR, Res.av, f1, f2, f3, e, (by simpa using e' : m.notes = [])]
       . simp [mgo_l0, g12, g11, g10, g13, b10, hb, h1, show ¬ m.pc < x.code.length by omega]
         rw [<- hrun]
         simp [goR, Res.av, f1, f2, f3, e]
       . simp [mgo_l0, g12, g11, g10, g13, b10, hb, h1, show ¬ m.pc < x.code.length by omega, hr]
         rw [<- hrun]
         simp [goR, Res.av, f1, f2, f3, hli, hr, (by simpa using e' : m.notes = [])]
       . simp [mgo_l0, g12, g11, g10, g13, b10, hb, h1, show ¬ m.pc < x.code.length by omega, hr]
         rw [<- hrun]
         simp [goR, Res.av, f1, f2, f3, hli, hr]
     . rcases hr with ⟨rfl, e⟩ | ⟨sr, rfl, hr⟩ <;> rcases hn with ⟨rfl, e'⟩ | ⟨sn, rfl, hn⟩
       . simp [mgo_l0, g12, g11, g10, g13, b10, hb, h1]
         rw [<- hrun]
         simp [goR, Res.av, f1, f2, f3, e, (by simpa using e' : m.notes = [])]
       . simp [mgo_l0, g12, g11, g10, g13, b10, hb, h1]
         rw [<- hrun]
         simp [goR, Res.av, f1, f2, f3, e]
       . simp [mgo_l0, g12, g11, g10, g13, b10, hb, h1, hr]
         rw [<- hrun]
         simp [goR, Res.av, f1, f2, f3, hli, hr, (by simpa using e' : m.notes = [])]
       . simp [mgo_l0, g12, g11, g10, g13, b10, hb, h1, hr]
         rw [<- hrun]
         simp [goR, Res.av, f1, f2, f3, hli, hr]
end Go.Gv

namespace Go.Gv
open Go.Proofs
structure MId where
 frm : Int
 n : Int
 cpy : Int
deriving DecidableEq
structure Msg where
 id : MId
 note : Nt
structure Bud where
 drop : Int
 dup : Int
 time : Int
 crash : Int
structure Wld where
 acts : List Lcl
 mail : List Msg
 used : Bud
structure Evt where
 kind : Int
 id : MId
 who : Int
deriving DecidableEq
def MId.av (i : MId) : AV := .agg [iv i.frm, iv i.n, iv i.cpy]
def Msg.av (m : Msg) : AV := .agg [iv m.id.frm, iv m.id.n, iv m.id.cpy, iv m.note.to, iv m.note.hd, ints m.note.args]
def Bud.av (b : Bud) : AV := .agg [iv b.drop, iv b.dup, iv b.time, iv b.crash]
def Wld.av (w : Wld) : AV := .agg [.lst 5 (w.acts.map Lcl.av), .lst 6 (w.mail.map Msg.av), iv w.used.drop, iv w.used.dup, iv w.used.time, iv w.used.crash]
def Evt.av (e : Evt) : AV := .agg [iv e.kind, iv e.id.frm, iv e.id.n, iv e.id.cpy, iv e.who]
def idxV (id : MId) : List Msg -> Option Nat
 | [] => none
 | m :: l => if m.id = id then some 0 else (idxV id l).map (· + 1)
def findV (l : List Msg) (id : MId) : Int := match idxV id l with | some i => i | none => -1
def toV (l : List Msg) (who : Int) : Nat := (l.filter fun m => decide (m.note.to = who)).length
def cmpV (a b : Int) : Int := if a < b then -1 else if b < a then 1 else 0
def orderV (a b : MId) : Int := if cmpV a.frm b.frm ≠ 0 then cmpV a.frm b.frm else if cmpV a.n b.n ≠ 0 then cmpV a.n b.n else cmpV a.cpy b.cpy
def lessV (a b : MId) : Bool := decide (orderV a b < 0)
def insV (m : Msg) : List Msg -> List Msg
 | [] => [m]
 | x :: l => if lessV x.id m.id = true then x :: insV m l else m :: x :: l
def overV (w : Wld) (i : Nat) : Wld := { w with acts := w.acts.set i (match w.acts[i]? with | some l => { l with over := w64 (l.over + 1) } | none => ⟨[], false, 0, 0, 0⟩) }
def capV (p : Prg) (i : Int) : Int := (p.as[i.toNat]?.map Actr.cap).getD 0
def postV (p : Prg) (w : Wld) (m : Msg) : Wld :=
 if (toV w.mail m.note.to : Int) < capV p m.note.to then
   (if idxV m.id w.mail = none then { w with mail := insV m w.mail } else overV w m.note.to.toNat)
 else overV w m.note.to.toNat
def giveL (p : Prg) (frm first : Int) : Nat -> List Nt -> Wld -> Wld
 | _, [], w => w
 | i, n :: l, w => giveL p frm first (i + 1) l (if 0 <= n.to /\ n.to < (min p.as.length w.acts.length : Nat) then postV p w ⟨⟨frm, w64 (first + i), 0⟩, n⟩ else w)
def sentV (w : Wld) (i : Int) : Int := (w.acts[i.toNat]?.map Lcl.sent).getD 0
def giveV (p : Prg) (w : Wld) (frm : Int) (l : List Nt) : Wld := giveL p frm (if 0 <= frm then w64 (sentV w frm - l.length) else 0) 0 l w
def startV (p : Prg) : Wld := giveV p ⟨p.as.map fun a => ⟨a.regs, a.armed, 0, 0, 0⟩, [], ⟨0, 0, 0, 0⟩⟩ (-1) p.boot
def lessB (have_ used : Int) : Int := if w64 (have_ - used) < 0 then 0 else w64 (have_ - used)
def leftV (b : Bud) (w : Wld) : Bud := ⟨lessB b.drop w.used.drop, lessB b.dup w.used.dup, lessB b.time w.used.time, lessB b.crash w.used.crash⟩
def paidV (b : Bud) (k : Int) : Bool := if k = 2 then decide (0 < b.drop) else if k = 3 then decide (0 < b.dup) else if k = 4 then decide (0 < b.time) else if k = 5 then decide (0 < b.crash) else true
def downV (w : Wld) (i : Int) : Int := (w.acts[i.toNat]?.map Lcl.down).getD 0
def armedV (w : Wld) (i : Int) : Bool := (w.acts[i.toNat]?.map Lcl.armed).getD false
def ntAt (w : Wld) (id : MId) : Option Nt := (idxV id w.mail).bind fun i => w.mail[i]?.map Msg.note
def canV (w : Wld) (e : Evt) : Bool :=
 if e.kind = 1 \/ e.kind = 2 \/ e.kind = 3 then
   decide (e.who = 0) && (match ntAt w e.id with
     | some n => !decide (e.kind = 1) || decide (downV w n.to = 0)
     | none => false)
 else if e.kind = 4 \/ e.kind = 5 then
   decide (e.id = ⟨0, 0, 0⟩) && decide (0 <= e.who) && decide (e.who < w.acts.length) && decide (downV w e.who = 0) && (!decide (e.kind = 4) || armedV w e.who)
 else false
def evM (k : Int) (l : List Msg) : List Evt := l.map fun m => ⟨k, m.id, 0⟩
def evA (k : Int) (n : Nat) : List Evt := (List.range n).map fun (i : Nat) => ⟨k, ⟨0, 0, 0⟩, (i : Int)⟩
def allV (b : Bud) (w : Wld) : List Evt := (evM 1 w.mail ++ evM 2 w.mail ++ evM 3 w.mail ++ evA 4 w.acts.length ++ evA 5 w.acts.length).filter fun e => paidV (leftV b w) e.kind && canV w e
def goV (p : Prg) (who : Int) (l : Lcl) (h : Int) (args : List Int) : Res :=
 match p.hs[h.toNat]? with
 | some x => goR l (runG (fxOf p who l args) x.code (p.fuel.toNat + 1) (m0Of l) 0)
 | none => ⟨l, [], 0⟩
def lcl0 : Lcl := ⟨[], false, 0, 0, 0⟩
def lclV (w : Wld) (i : Int) : Lcl := (w.acts[i.toNat]?).getD lcl0
def setL (w : Wld) (i : Int) (l : Lcl) : Wld := { w with acts := w.acts.set i.toNat l }
def timerV (p : Prg) (i : Int) : Int := (p.as[i.toNat]?.map Actr.timer).getD 0
def applyV (p : Prg) (w : Wld) (e : Evt) : Wld :=
 if e.kind = 1 \/ e.kind = 2 then
   (match ntAt w e.id, idxV e.id w.mail with
    | some n, some i =>
      let w1 : Wld := { w with mail := w.mail.take i ++ w.mail.drop (i + 1) }
      if e.kind = 2 then { w1 with used := { w1.used with drop := w64 (w1.used.drop + 1) } }
      else
        let r := goV p n.to (lclV w1 n.to) n.hd n.args
        giveV p (setL w1 n.to r.l) n.to r.notes
    | _, _ => w)
 else if e.kind = 3 then
   (match idxV e.id w.mail with
    | some i => (match w.mail[i]? with
      | some m => let w1 : Wld := { w with used := { w.used with dup := w64 (w.used.dup + 1) } }
                  postV p w1 ⟨{ m.id with cpy := w1.used.dup }, m.note⟩
      | none => w)
    | none => w)
 else if e.kind = 4 then
   let w1 : Wld := setL { w with used := { w.used with time := w64 (w.used.time + 1) } } e.who { lclV w e.who with armed := false }
   let r := goV p e.who (lclV w1 e.who) (timerV p e.who) []
   giveV p (setL w1 e.who r.l) e.who r.notes
 else if e.kind = 5 then setL { w with used := { w.used with crash := w64 (w.used.crash + 1) } } e.who { lclV w e.who with down := 1 }
 else w
def wouldV (p : Prg) (w : Wld) (e : Evt) : List Nt :=
 if canV w e = true then
   (if e.kind = 1 then (match ntAt w e.id with | some n => (goV p n.to (lclV w n.to) n.hd n.args).notes | none => [])
    else if e.kind = 4 then (goV p e.who { lclV w e.who with armed := false } (timerV p e.who) []).notes else [])
 else []
def sortI : List Int -> List Int
 | [] => []
 | x :: l => let r := sortI l; (r.filter fun y => decide (y < x)) ++ x :: (r.filter fun y => !decide (y < x))
def compI : List Int -> List Int
 | [] => []
 | [x] => [x]
 | x :: y :: l => if x = y then compI (y :: l) else x :: compI (y :: l)
def touchV (p : Prg) (w : Wld) (e : Evt) : List Int :=
 if e.kind = 1 \/ e.kind = 2 \/ e.kind = 3 then
   (match ntAt w e.id with
    | some n => compI (sortI (n.to :: (wouldV p w e).map Nt.to))
    | none => [])
 else if e.kind = 4 \/ e.kind = 5 then
   (if e.who < 0 \/ (w.acts.length : Int) <= e.who then [] else compI (sortI (e.who :: (wouldV p w e).map Nt.to)))
 else []
def faultV (e : Evt) : Bool := decide (2 <= e.kind) && decide (e.kind <= 5)
def apartV (a b : Evt) (x y : List Int) : Bool := decide (a ≠ b) && !(decide (a.kind = b.kind) && faultV a) && !x.isEmpty && !y.isEmpty && !(x.any fun n => y.contains n)
def stillV (p : Prg) (w : Wld) (sleep : List Evt) (e : Evt) : List Evt := sleep.filter fun x => apartV x e (touchV p w x) (touchV p w e)
def whoseV (i : Ins) : Int := if i.op = 31 /\ 0 <= i.a then i.a / 16 else i.a
def askV (w : Wld) (i : Ins) : Int :=
 if i.op = 31 then (let l := lclV w (whoseV i); if (l.regs.length : Int) <= i.a.tmod 16 then 0 else (l.regs[(i.a.tmod 16).toNat]?).getD 0)
 else if i.op = 32 then (lclV w (whoseV i)).down
 else if i.op = 33 then (lclV w (whoseV i)).over
 else if i.op = 34 then toV w.mail (whoseV i)
 else if i.op = 35 then tv (lclV w (whoseV i)).armed
 else if i.op = 36 then (lclV w (whoseV i)).sent
 else w.mail.length
def exV (w : Wld) : List Ins -> List Int -> List Int
 | [], s => s
 | i :: l, s => exV w l (
     if 31 <= i.op /\ i.op <= 37 then s ++ [askV w i]
     else if i.op = 1 then s ++ [i.a]
     else if i.op = 2 then s.dropLast
     else if i.op = 3 then s ++ [top s]
     else if i.op = 4 then s.dropLast.dropLast ++ [top s, top s.dropLast]
     else if (oneV i.op (top s)).2 = true then s.dropLast ++ [(oneV i.op (top s)).1]
     else s.dropLast.dropLast ++ [(twoV i.op (top s.dropLast) (top s)).1])
def ofV (w : Wld) (x : List Ins) : Int := (exV w x []).headD 0
def badL (w : Wld) : Nat -> List (List Ins) -> List Int
 | _, [] => []
 | i, x :: l => if ofV w x = 0 then (i : Int) :: badL w (i + 1) l else badL w (i + 1) l
def badV (w : Wld) (l : List (List Ins)) : List Int := badL w 0 l
structure Fnd where
 watch : Int
 path : List Evt
structure Sr where
 runs : Int
 worlds : Int
 found : List Fnd
 path : List Evt
 ended : Bool
 cut : Int
 slept : Int
structure Cfg where
 p : Prg
 b : Bud
 l : List (List Ins)
 depth : Int
 most : Int
def addF (s : Sr) : List Int -> List Fnd -> List Fnd
 | [], f => f
 | i :: l, f => addF s l (if (f.any fun x => decide (x.watch = i)) = true then f else f ++ [⟨i, s.path⟩])
def enterV (c : Cfg) (s : Sr) (w : Wld) : Sr :=
 if s.ended = true \/ c.most <= s.runs then { s with ended := true }
 else { s with worlds := w64 (s.worlds + 1), found := addF s (badV w c.l) s.found }
def loopS (rec : Sr -> Wld -> List Evt -> Sr) (c : Cfg) (w : Wld) (sleep : List Evt) : List Evt -> List Evt -> Sr -> Sr
 | _, [], s => s
 | dn, e :: r, s =>
   let s1 := rec { s with path := s.path ++ [e] } (applyV c.p w e) (stillV c.p w (sleep ++ dn) e)
   let s2 := { s1 with path := s1.path.dropLast }
   if s2.ended = true then s2 else loopS rec c w sleep (dn ++ [e]) r s2
def visitS (c : Cfg) : Nat -> Sr -> Wld -> List Evt -> Sr
 | 0, s, _, _ => s
 | f + 1, s, w, sleep =>
   let s := enterV c s w
   if s.ended = true then s else
   let all := allV c.b w
   let awake := all.filter fun e => !sleep.contains e
   let deep := decide (c.depth <= s.path.length)
   if deep = true \/ awake = [] then
     (let s := { s with runs := w64 (s.runs + 1) }
      if deep = false /\ all ≠ [] then { s with slept := w64 (s.slept + 1), cut := w64 (s.cut + all.length) } else s)
   else loopS (visitS c f) c w sleep [] awake { s with cut := w64 (s.cut + w64 (all.length - awake.length)) }
def sr0 : Sr := ⟨0, 0, [], [], false, 0, 0⟩
def exploreS (c : Cfg) : Sr := visitS c (c.depth.toNat + 1) sr0 (startV c.p) []
end Go.Gv

namespace Go.Gv
open Go.Proofs
def isNaN_c : AC := (.seq (.reg [oA 2 (.mv (.c (.bool false)))]) (.seq (.reg [oM 3 0, oM 4 0, oB 5 .neq 3 4, oM 2 5]) .ret))
set_option maxRecDepth 100000 in
theorem isNaN_get : getF Tryz.prog 190 200000 [] = some ("cmp.isNaN[int]", 6, isNaN_c, [(.tmp 2)]) := by kernel_rfl
def compare_c : AC := (.seq (.reg [oI 4 0]) (.seq (.reg [oM 7 0, oC 8 (.c (.fn 190 [])) [(.t 7)], oM 5 8]) (.seq (.reg [oM 9 1, oC 10 (.c (.fn 190 [])) [(.t 9)], oM 6 10]) (.seq (.seq (.reg [oM 11 5]) (.cond (.t 11) (.seq (.seq (.reg [oM 12 6]) (.cond (.t 12) (.seq (.reg [oI 4 0]) .ret) .skip)) (.seq (.reg [oI 4 (-1)]) .ret)) .skip)) (.seq (.seq (.reg [oM 13 6]) (.cond (.t 13) (.seq (.reg [oI 4 1]) .ret) .skip)) (.seq (.seq (.reg [oM 14 0, oM 15 1, oB 16 .lss 14 15]) (.cond (.t 16) (.seq (.reg [oI 4 (-1)]) .ret) .skip)) (.seq (.seq (.reg [oM 17 0, oM 18 1, oB 19 .gtr 17 18]) (.cond (.t 19) (.seq (.reg [oI 4 1]) .ret) .skip)) (.seq (.reg [oI 4 0]) .ret))))))))
set_option maxRecDepth 100000 in
theorem compare_get : getF Tryz.prog 251 201000 [] = some ("cmp.Compare[int]", 20, compare_c, [(.tmp 4)]) := by kernel_rfl
def or3_l0 : AC := (.seq (.reg [oB 9 .lss 8 7]) (.seq (.cond (.t 9) .skip (.exit 0)) (.seq (.block 1 (.seq (.reg [oA 10 (.idx 1 (.t 6) (.t 8)), oL 11 10, oM 5 11]) (.seq (.reg [oM 12 5, oM 13 3, oB 14 .neq 12 13]) (.cond (.t 14) (.seq (.reg [oM 15 5, oM 2 15]) .ret) .skip)))) (.reg [oZ 16 .add 8 1, oM 8 16]))))
def or3_c : AC := (.seq (.reg [oI 2 0]) (.seq (.reg [oI 3 0]) (.seq (.seq (.reg [oM 6 0, oK 7 6, oI 8 0]) (.block 0 (.loop or3_l0))) (.seq (.reg [oM 17 3, oM 2 17]) .ret))))
set_option maxRecDepth 100000 in
theorem or3_get : getF Tryz.prog 250 202000 [] = some ("cmp.Or[int]", 18, or3_c, [(.tmp 2)]) := by kernel_rfl
def order_c : AC := (.seq (.reg [oA 2 (.box 203002 3 (.t 0)), oA 3 (.box 203003 3 (.t 1)), oI 4 0]) (.seq (.regd [oF 5 0 2, oL 6 5, oF 7 0 3, oL 8 7, oC 9 (.c (.fn 251 [])) [(.t 6), (.t 8)], oF 10 1 2, oL 11 10, oF 12 1 3, oL 13 12, oC 14 (.c (.fn 251 [])) [(.t 11), (.t 13)], oF 15 2 2, oL 16 15, oF 17 2 3, oL 18 17, oC 19 (.c (.fn 251 [])) [(.t 16), (.t 18)], oA 20 (.bsl 203020 1 3 3 (.int .i64 0) [(0, (.t 9)), (1, (.t 14)), (2, (.t 19))]), oC 21 (.c (.fn 250 [])) [(.t 20)], oM 4 21] [[], [0], [], [2], [1, 3, 0, 2], [], [5], [], [7], [6, 8, 4, 5, 7, 1, 3, 0, 2], [], [10], [], [12], [11, 13, 9, 10, 12, 6, 8, 4, 5, 7, 1, 3, 0, 2], [4, 9, 14, 1, 3, 0, 2, 6, 8, 5, 7, 11, 13, 10, 12], [15, 14, 4, 9, 1, 3, 0, 2, 6, 8, 5, 7, 11, 13, 10, 12], [16, 0, 1, 2, 3, 4, 5, 6, 7, 8, 9, 10, 11, 12, 13, 14, 15]]) .ret))
set_option maxRecDepth 100000 in
theorem order_get : getF Tryz.prog 233 203000 [] = some ("gavotte/ident.order", 22, order_c, [(.tmp 4)]) := by kernel_rfl
def iless_c : AC := (.seq (.reg [oA 2 (.box 204002 3 (.t 0)), oA 3 (.box 204003 3 (.t 1)), oA 4 (.mv (.c (.bool false)))]) (.seq (.reg [oA 5 (.load (some 3) (.t 2)), oA 6 (.load (some 3) (.t 3)), oC 7 (.c (.fn 233 [])) [(.t 5), (.t 6)], oZ 8 .lss 7 0, oM 4 8]) .ret))
set_option maxRecDepth 100000 in
theorem iless_get : getF Tryz.prog 211 204000 [] = some ("gavotte/ident.Less", 9, iless_c, [(.tmp 4)]) := by kernel_rfl
def mailTo_l0 : AC := (.seq (.reg [oB 10 .lss 9 8]) (.seq (.cond (.t 10) .skip (.exit 0)) (.seq (.block 1 (.seq (.reg [oA 11 (.idx 6 (.t 7) (.t 9)), oA 12 (.load (some 6) (.t 11)), oA 6 (.new 205006 6 (.agg [(.int .i64 0), (.int .i64 0), (.int .i64 0), (.int .i64 0), (.int .i64 0), .nils])), oN (.store 6 (.t 6) (.t 12))]) (.seq (.reg [oF 13 3 6, oF 14 0 13, oL 15 14, oM 16 1, oB 17 .eql 15 16]) (.cond (.t 17) (.reg [oM 18 4, oZ 19 .add 18 1, oM 4 19]) .skip)))) (.reg [oZ 20 .add 9 1, oM 9 20]))))
def mailTo_c : AC := (.seq (.reg [oI 4 0]) (.seq (.seq (.reg [oM 7 0, oK 8 7, oI 9 0]) (.block 0 (.loop mailTo_l0))) (.seq (.reg [oM 21 4, oM 4 21]) .ret)))
set_option maxRecDepth 100000 in
theorem mailTo_get : getF Tryz.prog 175 205000 [] = some ("gavotte/mail.To", 22, mailTo_c, [(.tmp 4)]) := by kernel_rfl
def mown_c : AC := (.seq (.reg [oA 1 (.box 206001 6 (.t 0)), oA 2 (.new 206002 6 (.agg [(.int .i64 0), (.int .i64 0), (.int .i64 0), (.int .i64 0), (.int .i64 0), .nils]))]) (.seq (.reg [oF 3 3 1, oA 4 (.load (some 3) (.t 3)), oC 5 (.c (.fn 236 [])) [(.t 4)], oF 6 3 1, oN (.store 3 (.t 6) (.t 5))]) (.seq (.reg [oA 7 (.load (some 6) (.t 1)), oN (.store 6 (.t 2) (.t 7))]) .ret)))
set_option maxRecDepth 100000 in
theorem mown_get : getF Tryz.prog 213 206000 [] = some ("gavotte/mail.own", 8, mown_c, [(.cell (some 6) 2)]) := by kernel_rfl
theorem wrap1 : IntKind.i64.wrap 1 = 1 := by decide
theorem wrap2 : IntKind.i64.wrap 2 = 2 := by decide
theorem wrap3 : IntKind.i64.wrap 3 = 3 := by decide
@[simp] theorem Msg.cells_av (m : Msg) : m.av.cells = [iv m.id.frm, iv m.id.n, iv m.id.cpy, iv m.note.to, iv m.note.hd, ints m.note.args] := rfl
@[simp] theorem Msg.norm_av (m : Msg) : normE m.av = m.av := rfl
@[simp] theorem MId.cells_av (m : MId) : m.av.cells = [iv m.frm, iv m.n, iv m.cpy] := rfl
theorem isNaN_pc (a : Int) : PC Tryz.prog 190 [iv a] (.bool false) := by
 refine pc_of_get isNaN_get (by simp) _ (by simp) _ ?_
 unfold isNaN_c
 simp
theorem compare_pc (a b : Int) : PC Tryz.prog 251 [iv a, iv b] (iv (cmpV a b)) := by
 refine pc_of_get compare_get (by simp) _ (by simp) _ ?_
 unfold compare_c cmpV
 simp
 refine call (isNaN_pc a) (by simp) ?_
 simp
 refine call (isNaN_pc b) (by simp) ?_
 simp
 refine split (fun hc => ?_) (fun hc => ?_) <;> simp [hc]
 refine split (fun hd => ?_) (fun hd => ?_) <;> simp [hd] <;> omega
theorem or3_pc (a b c : Int) : PC Tryz.prog 250 [ints [a, b, c]] (iv (if a ≠ 0 then a else if b ≠ 0 then b else c)) := by
 refine pc_of_get or3_get (by simp) _ (by simp) _ ?_
 unfold or3_c
 simp [ints]
 refine loopN (fun i S => S.t 6 = .lst 1 [iv a, iv b, iv c] /\ S.t 7 = iv 3 /\ S.t 8 = iv i /\ S.t 3 = iv 0 /\ (0 < i -> a = 0) /\ (1 < i -> b = 0) /\ (2 < i -> c = 0)) 3 ?_ ?_
 . simp
 . rintro i S hi ⟨g1, g2, g3, g4, h1, h2, h3⟩
   match i, hi, h1, h2, h3 with
   | 0, _, _, _, _ =>
     simp [or3_l0, g1, g2, g3, g4]
     refine split (fun hc => ?_) (fun hc => ?_) <;> simp [hc, g1, g2, g3, g4, wrap1]
   | 1, _, h1, _, _ =>
     have e1 := h1 (by omega)
     simp [or3_l0, g1, g2, g3, g4]
     refine split (fun hc => ?_) (fun hc => ?_) <;> simp [hc, e1, g1, g2, g3, g4, wrap2]
   | 2, _, h1, h2, _ =>
     have e1 := h1 (by omega)
     have e2 := h2 (by omega)
     simp [or3_l0, g1, g2, g3, g4]
     refine split (fun hc => ?_) (fun hc => ?_) <;> simp [hc, e1, e2, g1, g2, g3, g4, wrap3]
   | 3, _, h1, h2, h3 =>
     have e1 := h1 (by omega)
     have e2 := h2 (by omega)
     have e3 := h3 (by omega)
     simp [or3_l0, g1, g2, g3, g4, e1, e2, e3]
   | i + 4, h, _, _, _ => omega
theorem order_pc (a b : MId) : PC Tryz.prog 233 [a.av, b.av] (iv (orderV a b)) := by
 refine pc_of_get order_get (by simp) _ (by simp) _ ?_
 unfold order_c orderV
 simp [MId.av]
 refine calld (compare_pc a.frm b.frm) (by simp) ?_
 simp
 refine calld (compare_pc a.n b.n) (by simp) ?_
 simp
 refine calld (compare_pc a.cpy b.cpy) (by simp) ?_
 simp
 refine calld (or3_pc (cmpV a.frm b.frm) (cmpV a.n b.n) (cmpV a.cpy b.cpy)) (by simp [ints]) ?_
 simp
theorem iless_pc (a b : MId) : PC Tryz.prog 211 [a.av, b.av] (.bool (lessV a b)) := by
 refine pc_of_get iless_get (by simp) _ (by simp) _ ?_
 unfold iless_c lessV
 simp [MId.av]
 refine call (order_pc a b) (by simp [MId.av]) ?_
 simp
theorem toV_take (l : List Msg) (who : Int) (i : Nat) (h : i < l.length) : toV (l.take (i + 1)) who = toV (l.take i) who + if l[i].note.to = who then 1 else 0 := by
 unfold toV
 rw [List.take_succ_eq_append_getElem h, List.filter_append, List.length_append]
 by_cases e : l[i].note.to = who <;> simp [e]
theorem toV_le (l : List Msg) (who : Int) : toV l who <= l.length := List.length_filter_le _ _
theorem mailTo_pc (l : List Msg) (who : Int) (hl : l.length <= 1000) : PC Tryz.prog 175 [.lst 6 (l.map Msg.av), iv who] (iv (toV l who)) := by
 refine pc_of_get mailTo_get (by simp) _ (by simp) _ ?_
 unfold mailTo_c
 simp
 refine loopN (fun i S => S.t 7 = .lst 6 (l.map Msg.av) /\ S.t 8 = iv l.length /\ S.t 9 = iv i /\ S.t 1 = iv who /\ S.t 4 = iv (toV (l.take i) who)) l.length ?_ ?_
 . simp [toV]
 . rintro i S hi ⟨g1, g2, g3, g4, g5⟩
   by_cases hlt : i < l.length
   . have ws := wrap_succ i _ hlt (by omega)
     have hle := toV_le (l.take i) who
     rw [List.length_take] at hle
     have w2 : IntKind.i64.wrap ((toV (l.take i) who : Int) + 1) = (toV (l.take i) who : Int) + 1 := wrap_in _ (by omega) (by omega)
     have ht := toV_take l who i hlt
     simp [mailTo_l0, g1, g2, g3, g4, g5, hlt]
     by_cases e : l[i].note.to = who
     . rw [if_pos e] at ht
       simp [e, g1, g2, g3, g4, g5, ws, w2, ht]
     . rw [if_neg e] at ht
       simp [e, g1, g2, g3, g4, g5, ws, ht]
   . have e1 : i = l.length := by omega
     subst e1
     rw [List.take_length] at g5
     simp [mailTo_l0, g1, g2, g3, g4, g5]
theorem mown_pc (m : Msg) (h : m.note.args.length <= 1000) : PC Tryz.prog 213 [m.av] m.av := by
 refine pc_of_get mown_get (by simp) _ (by simp) _ ?_
 unfold mown_c
 simp [Msg.av]
 refine call (copyNote_pc m.note h) (by simp [Nt.av]) ?_
 simp [Nt.av]
end Go.Gv

namespace Go.Gv
open Go.Proofs
def idxM_l0 : AC := (.seq (.reg [oB 9 .lss 8 7]) (.seq (.cond (.t 9) .skip (.exit 0)) (.seq (.block 1 (.seq (.reg [oM 10 8, oM 5 10]) (.seq (.reg [oM 11 1, oM 12 0, oM 13 5, oA 14 (.idx 6 (.t 12) (.t 13)), oA 15 (.load (some 6) (.t 14)), oC 16 (.t 11) [(.t 15)]]) (.cond (.t 16) (.seq (.reg [oM 17 5, oM 4 17]) .ret) .skip)))) (.reg [oZ 18 .add 8 1, oM 8 18]))))
def idxM_c : AC := (.seq (.reg [oI 4 0]) (.seq (.seq (.reg [oM 6 0, oK 7 6, oI 8 0]) (.block 0 (.loop idxM_l0))) (.seq (.reg [oI 4 (-1)]) .ret)))
set_option maxRecDepth 100000 in
theorem idxM_get : getF Tryz.prog 180 208000 [] = some ("slices.IndexFunc[[]gavotte/api.Message,gavotte/api.Message]", 19, idxM_c, [(.tmp 4)]) := by kernel_rfl
def mfind_c : AC := (.seq (.reg [oA 3 (.box 209003 3 (.t 1)), oI 4 0]) (.seq (.reg [oM 5 0, oA 6 (.mkf 181 [(.t 3)]), oC 7 (.c (.fn 180 [])) [(.t 5), (.t 6)], oM 4 7]) .ret))
set_option maxRecDepth 100000 in
theorem mfind_get : getF Tryz.prog 131 209000 [] = some ("gavotte/mail.Find", 8, mfind_c, [(.tmp 4)]) := by kernel_rfl
def mfind1_c : AC := (.seq (.reg [oA 2 (.box 210002 6 (.t 0)), oA 3 (.mv (.c (.bool false)))]) (.seq (.reg [oF 4 0 2, oA 5 (.load (some 3) (.t 4)), oA 6 (.load (some 3) (.t 1)), oA 7 (.eqs [false, false, false] false (.t 5) (.t 6)), oM 3 7]) .ret))
set_option maxRecDepth 100000 in
theorem mfind1_get : getF Tryz.prog 181 210000 [] = some ("gavotte/mail.Find$1", 8, mfind1_c, [(.tmp 3)]) := by kernel_rfl
def mput1_c : AC := (.seq (.reg [oA 2 (.box 211002 6 (.t 0)), oA 3 (.mv (.c (.bool false)))]) (.seq (.reg [oF 4 0 2, oA 5 (.load (some 3) (.t 4)), oF 6 0 1, oA 7 (.load (some 3) (.t 6)), oC 8 (.c (.fn 211 [])) [(.t 5), (.t 7)], oA 9 (.not (.t 8)), oM 3 9]) .ret))
set_option maxRecDepth 100000 in
theorem mput1_get : getF Tryz.prog 210 211000 [] = some ("gavotte/mail.Put$1", 10, mput1_c, [(.tmp 3)]) := by kernel_rfl
def idxB {α : Type} (p : α -> Bool) (l : List α) : Int := match l.findIdx? p with | some i => (i : Int) | none => -1
theorem findIdx_at {α : Type} (p : α -> Bool) {l : List α} {i : Nat} (hlt : i < l.length) (h : ∀ x ∈ l.take i, p x = false) (hp : p l[i] = true) : l.findIdx? p = some i := by
 rw [List.findIdx?_eq_some_iff_getElem]
 refine ⟨hlt, hp, fun j hj => ?_⟩
 have hjl : j < l.length := by omega
 have := h l[j] (by rw [List.mem_take_iff_getElem]; exact ⟨j, by omega, rfl⟩)
 simpa using this
theorem findIdx_none {α : Type} (p : α -> Bool) {l : List α} (h : ∀ x ∈ l, p x = false) : l.findIdx? p = none := by
 rw [List.findIdx?_eq_none_iff]; exact h
theorem indexM_v (L : Nat -> Bool) (l : List Msg) (hl : l.length < 1000000) (fv : AV) (p : Msg -> Bool) {S : St} {k : AV -> St -> Prop} {u : Dep k}
   (hf : ∀ x ∈ l, ∀ (S' : St) (κ : AV -> St -> Prop), Fh L S S' -> (∀ S'', Fr L S' S'' -> κ (.bool (p x)) S'') -> CallG Tryz.prog fv [x.av] S' κ .mk)
   (hk : ∀ S', Fr L S S' -> k (iv (idxB p l)) S') :
   CallG Tryz.prog (.fn 180 []) [.lst 6 (l.map Msg.av), fv] S k u := by
 refine callV idxM_get (by simp) (by simp) ?_
 unfold idxM_c
 simp
 refine loopN (fun i S' => S'.t 0 = .lst 6 (l.map Msg.av) /\ S'.t 1 = fv /\ S'.t 7 = iv l.length /\ S'.t 8 = iv i /\ Fh L S S' /\ (∀ x ∈ l.take i, p x = false)) l.length ?_ ?_
 . exact ⟨by simp, by simp, by simp, by simp, ⟨fun _ _ => rfl, fun _ _ => rfl, by simp; omega⟩, by simp⟩
 . rintro i S' hi ⟨g0, g1, g7, g8, gf, gp⟩
   by_cases hlt : i < l.length
   . have hw := wrap_succ i _ hlt (by omega)
     simp [idxM_l0, g0, g1, g7, g8, hlt]
     refine hf l[i] (List.getElem_mem hlt) _ _ (gf.trans ⟨fun _ _ => rfl, fun _ _ => rfl, by simp; omega⟩) ?_
     rintro S'' hF
     have q1 := hF.t
     cases hp : p l[i] with
     | true =>
       simp [q1, g0, g1, g7, g8]
       have e : idxB p l = (i : Int) := by unfold idxB; rw [findIdx_at p hlt gp hp]
       rw [<- e]
       exact hk _ ⟨rfl, fun n hn => (hF.b n hn).trans (gf.b n hn), fun n hn => (hF.k n hn).trans (gf.k n hn), by have := hF.c; have := gf.c; simp at *; omega⟩
     | false =>
       simp [q1, g0, g1, g7, g8, hw, hlt]
       refine ⟨⟨fun n hn => (hF.b n hn).trans (gf.b n hn), fun n hn => (hF.k n hn).trans (gf.k n hn), by have := hF.c; have := gf.c; simp at *; omega⟩, fun x hx => ?_⟩
       rw [List.take_succ_eq_append_getElem hlt] at hx
       rcases List.mem_append.1 hx with q | q
       . exact gp x q
       . rw [List.mem_singleton.1 q]; exact hp
   . have e1 : i = l.length := by omega
     subst e1
     rw [List.take_length] at gp
     simp [idxM_l0, g0, g1, g7, g8]
     have e : idxB p l = -1 := by unfold idxB; rw [findIdx_none p gp]
     rw [<- e]
     exact hk _ ⟨rfl, gf.b, gf.k, by have := gf.c; simp at *; omega⟩
def Lone (a : Nat) : Nat -> Bool := fun n => decide (n = a)
theorem find1_v (nm st : Nat) (hn : nm ≠ 210002) (id : MId) (m : Msg) {S : St} {k : AV -> St -> Prop} {u : Dep k} (hb : S.blk nm = some ⟨st, 3, [id.av]⟩)
   (hk : ∀ S', Fr (Lone 210002) S S' -> k (.bool (decide (m.id = id))) S') : CallG Tryz.prog (.fn 181 [.ptr nm st 3 0 0]) [m.av] S k u := by
 refine callV mfind1_get (by simp) (by simp) ?_
 unfold mfind1_c
 simp [hn, hb, MId.av]
 have e : decide (m.id = id) = (decide (m.id.frm = id.frm) && (decide (m.id.n = id.n) && decide (m.id.cpy = id.cpy))) := by
   obtain ⟨a, b, c⟩ := m.id
   obtain ⟨a', b', c'⟩ := id
   simp
 rw [e] at hk
 exact hk _ ⟨rfl, fun n hn => by simp [show n ≠ 210002 by simpa [Lone] using hn], fun _ _ => rfl, by simp; omega⟩
theorem idxV_find (id : MId) : ∀ l : List Msg, l.findIdx? (fun m => decide (m.id = id)) = idxV id l
 | [] => rfl
 | m :: l => by
   rw [List.findIdx?_cons, idxV, idxV_find id l]
   by_cases h : m.id = id <;> simp [h]
theorem idxV_eq (id : MId) (l : List Msg) : idxB (fun m => decide (m.id = id)) l = findV l id := by
 unfold idxB findV
 rw [idxV_find]
 all_goals (cases idxV id l <;> rfl)
theorem mfind_pc (l : List Msg) (id : MId) (hl : l.length <= 1000) : PC Tryz.prog 131 [.lst 6 (l.map Msg.av), id.av] (iv (findV l id)) := by
 refine pc_of_get mfind_get (by simp) _ (by simp) _ ?_
 unfold mfind_c
 simp [MId.av]
 refine indexM_v (Lone 210002) l (by omega) _ (fun m => decide (m.id = id)) (fun x hx S' κ hF hκ => find1_v 209003 0 (by simp) id x ((hF.b _ (by simp [Lone])).trans (by simp [MId.av])) hκ) (fun S' hF => ?_)
 rw [idxV_eq]
 simp [hF.t]
theorem mput1_v (nm st : Nat) (hn : nm ≠ 211002) (m x : Msg) {S : St} {k : AV -> St -> Prop} {u : Dep k} (hb : S.blk nm = some ⟨st, 6, [m.av]⟩)
   (hk : ∀ S', Fr (Lone 211002) S S' -> k (.bool (!lessV x.id m.id)) S') : CallG Tryz.prog (.fn 210 [.ptr nm st 6 0 0]) [x.av] S k u := by
 refine callV mput1_get (by simp) (by simp) ?_
 unfold mput1_c
 simp [hn, hb]
 refine call (iless_pc x.id m.id) (by simp [MId.av]) ?_
 simp
 exact hk _ ⟨rfl, fun n hn => by simp [show n ≠ 211002 by simpa [Lone] using hn], fun _ _ => rfl, by simp; omega⟩
end Go.Gv

namespace Go.Gv
open Go.Proofs
def eless_c : AC := (.seq (.reg [oI 4 0]) (.seq (.reg [oM 5 0, oM 6 1, oB 7 .sub 5 6, oA 8 (.mm true (.t 7) [(.c (.int .i64 0))]), oM 4 8]) .ret))
set_option maxRecDepth 100000 in
theorem eless_get : getF Tryz.prog 130 212000 [] = some ("gavotte/event.less", 9, eless_c, [(.tmp 4)]) := by kernel_rfl
def eleft_c : AC := (.seq (.reg [oA 2 (.box 213002 4 (.t 0)), oA 3 (.box 213003 6 (.t 1)), oA 4 (.new 213004 4 (.agg [(.int .i64 0), (.int .i64 0), (.int .i64 0), (.int .i64 0)]))]) (.seq (.regd [oF 5 0 2, oL 6 5, oF 7 2 3, oF 8 0 7, oL 9 8, oC 10 (.c (.fn 130 [])) [(.t 6), (.t 9)], oF 11 1 2, oL 12 11, oF 13 2 3, oF 14 1 13, oL 15 14, oC 16 (.c (.fn 130 [])) [(.t 12), (.t 15)], oF 17 2 2, oL 18 17, oF 19 2 3, oF 20 2 19, oL 21 20, oC 22 (.c (.fn 130 [])) [(.t 18), (.t 21)], oF 23 3 2, oL 24 23, oF 25 2 3, oF 26 3 25, oL 27 26, oC 28 (.c (.fn 130 [])) [(.t 24), (.t 27)], oA 29 (.build [(.int .i64 0), (.int .i64 0), (.int .i64 0), (.int .i64 0)] [(0, (1, (.t 10))), (1, (1, (.t 16))), (2, (1, (.t 22))), (3, (1, (.t 28)))]), oN (.store 4 (.t 4) (.t 29))] [[], [0], [], [2], [3, 2], [1, 4, 0, 3, 2], [], [6], [], [8], [9, 8], [7, 10, 5, 6, 9, 8, 1, 4, 0, 3, 2], [], [12], [], [14], [15, 14], [13, 16, 11, 12, 15, 14, 7, 10, 5, 6, 9, 8, 1, 4, 0, 3, 2], [], [18], [], [20], [21, 20], [19, 22, 17, 18, 21, 20, 13, 16, 11, 12, 15, 14, 7, 10, 5, 6, 9, 8, 1, 4, 0, 3, 2], [5, 11, 17, 23, 1, 4, 0, 3, 2, 7, 10, 6, 9, 8, 13, 16, 12, 15, 14, 19, 22, 18, 21, 20], [24, 23, 0, 1, 2, 3, 4, 5, 6, 7, 8, 9, 10, 11, 12, 13, 14, 15, 16, 17, 18, 19, 20, 21, 22]]) .ret))
set_option maxRecDepth 100000 in
theorem eleft_get : getF Tryz.prog 97 213000 [] = some ("gavotte/event.Left", 30, eleft_c, [(.cell (some 4) 4)]) := by kernel_rfl
def epaid_c : AC := (.seq (.reg [oA 2 (.box 214002 4 (.t 0)), oA 4 (.mv (.c (.bool false)))]) (.seq (.seq (.reg [oM 5 1]) (.block 0 (.seq (.reg [oZ 7 .eql 5 2, oM 6 7]) (.cond (.t 6) (.seq (.reg [oF 8 0 2, oL 9 8, oZ 10 .gtr 9 0, oM 4 10]) .ret) (.seq (.reg [oZ 12 .eql 5 3, oM 11 12]) (.cond (.t 11) (.seq (.reg [oF 13 1 2, oL 14 13, oZ 15 .gtr 14 0, oM 4 15]) .ret) (.seq (.reg [oZ 17 .eql 5 4, oM 16 17]) (.cond (.t 16) (.seq (.reg [oF 18 2 2, oL 19 18, oZ 20 .gtr 19 0, oM 4 20]) .ret) (.seq (.reg [oZ 22 .eql 5 5, oM 21 22]) (.cond (.t 21) (.seq (.reg [oF 23 3 2, oL 24 23, oZ 25 .gtr 24 0, oM 4 25]) .ret) .skip)))))))))) (.seq (.reg [oA 4 (.mv (.c (.bool true)))]) .ret)))
set_option maxRecDepth 100000 in
theorem epaid_get : getF Tryz.prog 99 214000 [] = some ("gavotte/event.paid", 26, epaid_c, [(.tmp 4)]) := by kernel_rfl
def emay_c : AC := (.seq (.reg [oA 1 (.box 215001 4 (.t 0)), oA 2 (.mv (.c (.bool false)))]) (.seq (.reg [oF 3 0 1, oL 4 3, oF 5 1 1, oL 6 5, oF 7 2 1, oL 8 7, oF 9 3 1, oL 10 9, oA 11 (.mm false (.t 4) [(.t 6), (.t 8), (.t 10)]), oZ 12 .geq 11 0, oM 13 12, gF 14 13 true 0 1, gL 15 13 true 14, gF 16 13 true 1 1, gL 17 13 true 16, gF 18 13 true 2 1, gL 19 13 true 18, gF 20 13 true 3 1, gL 21 13 true 20, oG 22 13 true (.mm true (.t 15) [(.t 17), (.t 19), (.t 21)]), oG 23 13 true (.ibin .leq (.t 22) (.c (.int .i64 1000))), oA 24 (.pick (.t 13) (.t 23) (.c (.bool false))), oM 2 24]) .ret))
set_option maxRecDepth 100000 in
theorem emay_get : getF Tryz.prog 56 215000 [] = some ("gavotte/event.May", 25, emay_c, [(.tmp 2)]) := by kernel_rfl
def ecan_c : AC := (.seq (.reg [oA 2 (.box 216002 6 (.t 0)), oA 3 (.box 216003 5 (.t 1)), oA 4 (.mv (.c (.bool false)))]) (.seq (.seq (.reg [oF 6 0 3, oL 7 6]) (.block 0 (.seq (.seq (.reg [oZ 9 .eql 7 1, oM 8 9]) (.cond (.t 8) .skip (.seq (.reg [oZ 10 .eql 7 2, oM 8 10]) (.cond (.t 8) .skip (.reg [oZ 11 .eql 7 3, oM 8 11]))))) (.cond (.t 8) (.seq (.reg [oF 12 1 2, oL 13 12, oF 14 1 3, oA 15 (.load (some 3) (.t 14)), oC 16 (.c (.fn 131 [])) [(.t 13), (.t 15)], oM 5 16]) (.seq (.regd [oF 17 4 3, oL 18 17, oZ 19 .eql 18 0, oM 20 19, gM 21 20 true 5, oG 22 20 true (.ibin .geq (.t 21) (.c (.int .i64 0))), oA 23 (.pick (.t 20) (.t 22) (.c (.bool false))), oM 24 23, gF 25 24 true 0 3, gL 26 24 true 25, oG 27 24 true (.ibin .neq (.t 26) (.c (.int .i64 1))), gM 28 24 true 27, gF 29 28 false 0 2, gL 30 28 false 29, gF 31 28 false 1 2, gL 32 28 false 31, gM 33 28 false 5, oG 34 28 false (.idx 6 (.t 32) (.t 33)), gF 35 28 false 3 34, gF 36 28 false 0 35, gL 37 28 false 36, oG 38 28 false (.idx 5 (.t 30) (.t 37)), gF 39 28 false 2 38, gL 40 28 false 39, oG 41 28 false (.ibin .eql (.t 40) (.c (.int .i64 0))), oG 42 24 true (.pick (.t 28) (.c (.bool true)) (.t 41)), oA 43 (.pick (.t 24) (.t 42) (.c (.bool false))), oM 4 43] [[], [0], [1, 0], [2, 1, 0], [3, 2, 1, 0], [4, 3, 2, 1, 0], [3, 5, 2, 1, 0, 4], [6, 3, 5, 2, 1, 0, 4], [7, 6, 3, 5, 2, 1, 0, 4], [8, 7, 6, 3, 5, 2, 1, 0, 4], [9, 7, 8, 6, 3, 5, 2, 1, 0, 4], [10, 7, 9, 8, 6, 3, 5, 2, 1, 0, 4], [11, 10, 7, 9, 8, 6, 3, 5, 2, 1, 0, 4], [12, 11, 10, 7, 9, 8, 6, 3, 5, 2, 1, 0, 4], [11, 10, 7, 9, 8, 6, 3, 5, 2, 1, 0, 4], [14, 11, 10, 7, 9, 8, 6, 3, 5, 2, 1, 0, 4], [11, 10, 7, 9, 8, 6, 3, 5, 2, 1, 0, 4], [15, 16, 11, 14, 10, 7, 9, 8, 6, 3, 5, 2, 1, 0, 4], [17, 11, 15, 16, 14, 10, 7, 9, 8, 6, 3, 5, 2, 1, 0, 4], [18, 11, 17, 15, 16, 14, 10, 7, 9, 8, 6, 3, 5, 2, 1, 0, 4], [19, 11, 18, 17, 15, 16, 14, 10, 7, 9, 8, 6, 3, 5, 2, 1, 0, 4], [13, 20, 11, 12, 10, 7, 9, 8, 6, 3, 5, 2, 1, 0, 4, 19, 18, 17, 15, 16, 14], [21, 11, 13, 20, 12, 10, 7, 9, 8, 6, 3, 5, 2, 1, 0, 4, 19, 18, 17, 15, 16, 14], [22, 11, 21, 13, 20, 12, 10, 7, 9, 8, 6, 3, 5, 2, 1, 0, 4, 19, 18, 17, 15, 16, 14], [23, 11, 22, 21, 13, 20, 12, 10, 7, 9, 8, 6, 3, 5, 2, 1, 0, 4, 19, 18, 17, 15, 16, 14], [11, 24, 7, 10, 9, 8, 6, 3, 5, 2, 1, 0, 4, 23, 22, 21, 13, 20, 12, 19, 18, 17, 15, 16, 14], [7, 25, 6, 3, 5, 2, 1, 0, 4, 11, 24, 10, 9, 8, 23, 22, 21, 13, 20, 12, 19, 18, 17, 15, 16, 14], [26, 11, 0, 1, 2, 3, 4, 5, 6, 7, 8, 9, 10, 12, 13, 14, 15, 16, 17, 18, 19, 20, 21, 22, 23, 24, 25]]) .ret)) (.seq (.seq (.reg [oZ 45 .eql 7 4, oM 44 45]) (.cond (.t 44) .skip (.reg [oZ 46 .eql 7 5, oM 44 46]))) (.cond (.t 44) (.seq (.reg [oF 47 1 3, oA 48 (.load (some 3) (.t 47)), oA 49 (.build [(.int .i64 0), (.int .i64 0), (.int .i64 0)] []), oA 50 (.eqs [false, false, false] false (.t 48) (.t 49)), oM 51 50, gF 52 51 true 4 3, gL 53 51 true 52, oG 54 51 true (.ibin .geq (.t 53) (.c (.int .i64 0))), oA 55 (.pick (.t 51) (.t 54) (.c (.bool false))), oM 56 55, gF 57 56 true 4 3, gL 58 56 true 57, gF 59 56 true 0 2, gL 60 56 true 59, oG 61 56 true (.len (.t 60)), oG 62 56 true (.ibin .lss (.t 58) (.t 61)), oA 63 (.pick (.t 56) (.t 62) (.c (.bool false))), oM 64 63, gF 65 64 true 0 2, gL 66 64 true 65, gF 67 64 true 4 3, gL 68 64 true 67, oG 69 64 true (.idx 5 (.t 66) (.t 68)), gF 70 64 true 2 69, gL 71 64 true 70, oG 72 64 true (.ibin .eql (.t 71) (.c (.int .i64 0))), oA 73 (.pick (.t 64) (.t 72) (.c (.bool false))), oM 74 73, gF 75 74 true 0 3, gL 76 74 true 75, oG 77 74 true (.ibin .neq (.t 76) (.c (.int .i64 4))), gM 78 74 true 77, gF 79 78 false 0 2, gL 80 78 false 79, gF 81 78 false 4 3, gL 82 78 false 81, oG 83 78 false (.idx 5 (.t 80) (.t 82)), gF 84 78 false 1 83, gL 85 78 false 84, oG 86 74 true (.pick (.t 78) (.c (.bool true)) (.t 85)), oA 87 (.pick (.t 74) (.t 86) (.c (.bool false))), oM 4 87]) .ret) .skip)))))) (.seq (.reg [oA 4 (.mv (.c (.bool false)))]) .ret)))
set_option maxRecDepth 100000 in
theorem ecan_get : getF Tryz.prog 100 216000 [] = some ("gavotte/event.Can", 88, ecan_c, [(.tmp 4)]) := by kernel_rfl
@[simp] theorem Wld.cells_av (w : Wld) : w.av.cells = [.lst 5 (w.acts.map Lcl.av), .lst 6 (w.mail.map Msg.av), iv w.used.drop, iv w.used.dup, iv w.used.time, iv w.used.crash] := rfl
@[simp] theorem Bud.cells_av (b : Bud) : b.av.cells = [iv b.drop, iv b.dup, iv b.time, iv b.crash] := rfl
@[simp] theorem Evt.cells_av (e : Evt) : e.av.cells = [iv e.kind, iv e.id.frm, iv e.id.n, iv e.id.cpy, iv e.who] := rfl
theorem eless_pc (a b : Int) : PC Tryz.prog 130 [iv a, iv b] (iv (lessB a b)) := by
 refine pc_of_get eless_get (by simp) _ (by simp) _ ?_
 unfold eless_c lessB
 simp
 show max (w64 (a - b)) 0 = _
 generalize w64 (a - b) = x
 split <;> omega
theorem eleft_pc (b : Bud) (w : Wld) : PC Tryz.prog 97 [b.av, w.av] (leftV b w).av := by
 refine pc_of_get eleft_get (by simp) _ (by simp) _ ?_
 unfold eleft_c leftV
 simp [Bud.av, Wld.av]
 refine calld (eless_pc b.drop w.used.drop) (by simp) ?_
 simp
 refine calld (eless_pc b.dup w.used.dup) (by simp) ?_
 simp
 refine calld (eless_pc b.time w.used.time) (by simp) ?_
 simp
 refine calld (eless_pc b.crash w.used.crash) (by simp) ?_
 simp
theorem epaid_pc (b : Bud) (k : Int) : PC Tryz.prog 99 [b.av, iv k] (.bool (paidV b k)) := by
 refine pc_of_get epaid_get (by simp) _ (by simp) _ ?_
 unfold epaid_c paidV
 simp [Bud.av]
 by_cases h2 : k = 2
 . simp [h2]
 by_cases h3 : k = 3
 . simp [h3]
 by_cases h4 : k = 4
 . simp [h4]
 by_cases h5 : k = 5
 . simp [h5]
 simp [h2, h3, h4, h5]
def budOk (b : Bud) : Bool := decide (0 <= min b.drop (min b.dup (min b.time b.crash))) && decide (max b.drop (max b.dup (max b.time b.crash)) <= 1000)
theorem emay_pc (b : Bud) : PC Tryz.prog 56 [b.av] (.bool (budOk b)) := by
 refine pc_of_get emay_get (by simp) _ (by simp) _ ?_
 unfold emay_c budOk
 simp [Bud.av]
 by_cases h : 0 <= min b.drop (min b.dup (min b.time b.crash))
 . simp [h]
 . simp [h]
structure WOk (w : Wld) : Prop where
 ml : w.mail.length <= 1000
 al : w.acts.length <= 1000
 to : ∀ m ∈ w.mail, 0 <= m.note.to /\ m.note.to < w.acts.length
theorem idxV_some {id : MId} : ∀ {l : List Msg} {i : Nat}, idxV id l = some i -> ∃ h : i < l.length, l[i].id = id
 | [], i, h => by cases h
 | m :: l, i, h => by
   unfold idxV at h
   split at h
   . rename_i q; cases h; exact ⟨by simp, q⟩
   . obtain ⟨j, hj, rfl⟩ := Option.map_eq_some_iff.1 h
     obtain ⟨q1, q2⟩ := idxV_some hj
     exact ⟨by simpa using q1, by simpa using q2⟩
theorem ntAt_none {w : Wld} {id : MId} (h : idxV id w.mail = none) : ntAt w id = none /\ findV w.mail id = -1 := by
 unfold ntAt findV; rw [h]; exact ⟨rfl, rfl⟩
theorem ntAt_some {w : Wld} {id : MId} {i : Nat} (h : idxV id w.mail = some i) : ∃ h : i < w.mail.length, ntAt w id = some w.mail[i].note /\ findV w.mail id = i := by
 obtain ⟨h1, h2⟩ := idxV_some h
 refine ⟨h1, ?_, ?_⟩
 . unfold ntAt; rw [h]; simp [List.getElem?_eq_getElem h1]
 . unfold findV; rw [h]
set_option maxHeartbeats 1600000 in
theorem ecan_none (w : Wld) (hw : WOk w) (e : Evt) (h123 : e.kind = 1 \/ e.kind = 2 \/ e.kind = 3) (hi : idxV e.id w.mail = none) : PC Tryz.prog 100 [w.av, e.av] (.bool false) := by
 refine pc_of_get ecan_get (by simp) _ (by simp) _ ?_
 unfold ecan_c
 obtain ⟨q1, q2⟩ := ntAt_none hi
 have hf := mfind_pc w.mail e.id hw.ml
 rw [q2] at hf
 rcases h123 with hk | hk | hk
 all_goals
   simp [Wld.av, Evt.av, hk]
   refine call hf (by simp [MId.av]) ?_
   by_cases h0 : e.who = 0 <;> simp [h0]
theorem ecan_1 (w : Wld) (hw : WOk w) (e : Evt) (hk : e.kind = 1) (i : Nat) (hi : idxV e.id w.mail = some i) (hl : i < w.mail.length) : PC Tryz.prog 100 [w.av, e.av] (.bool (decide (e.who = 0) && decide (downV w w.mail[i].note.to = 0))) := by
 refine pc_of_get ecan_get (by simp) _ (by simp) _ ?_
 unfold ecan_c
 obtain ⟨_, q1, q2⟩ := ntAt_some hi
 have hf := mfind_pc w.mail e.id hw.ml
 rw [q2] at hf
 obtain ⟨t1, t2⟩ := hw.to _ (List.getElem_mem hl)
 have t3 : w.mail[i].note.to.toNat < w.acts.length := by omega
 have hd : downV w w.mail[i].note.to = w.acts[w.mail[i].note.to.toNat].down := by unfold downV; rw [List.getElem?_eq_getElem t3]; rfl
 simp [Wld.av, Evt.av, hk]
 refine call hf (by simp [MId.av]) ?_
 by_cases h0 : e.who = 0
 . simp [h0, hl, t1, t3, hd]
 . simp [h0]
theorem ecan_23 (w : Wld) (hw : WOk w) (e : Evt) (hk : e.kind = 2 \/ e.kind = 3) (i : Nat) (hi : idxV e.id w.mail = some i) : PC Tryz.prog 100 [w.av, e.av] (.bool (decide (e.who = 0))) := by
 refine pc_of_get ecan_get (by simp) _ (by simp) _ ?_
 unfold ecan_c
 obtain ⟨_, q1, q2⟩ := ntAt_some hi
 have hf := mfind_pc w.mail e.id hw.ml
 rw [q2] at hf
 rcases hk with hk | hk
 all_goals
   simp [Wld.av, Evt.av, hk]
   refine call hf (by simp [MId.av]) ?_
   by_cases h0 : e.who = 0 <;> simp [h0]
theorem ecan_45 (w : Wld) (hw : WOk w) (e : Evt) (hk : e.kind = 4 \/ e.kind = 5) : PC Tryz.prog 100 [w.av, e.av] (.bool (canV w e)) := by
 refine pc_of_get ecan_get (by simp) _ (by simp) _ ?_
 unfold ecan_c canV
 have hid : decide (e.id = ⟨0, 0, 0⟩) = (decide (e.id.frm = 0) && (decide (e.id.n = 0) && decide (e.id.cpy = 0))) := by
   obtain ⟨a, b, c⟩ := e.id
   simp
 rw [if_neg (by omega), if_pos hk, hid]
 by_cases i1 : e.id.frm = 0 /\ e.id.n = 0 /\ e.id.cpy = 0
 . obtain ⟨i1, i2, i3⟩ := i1
   by_cases h0 : 0 <= e.who
   . by_cases h1 : e.who < w.acts.length
     . have t3 : e.who.toNat < w.acts.length := by omega
       have hd : downV w e.who = w.acts[e.who.toNat].down := by unfold downV; rw [List.getElem?_eq_getElem t3]; rfl
       have ha : armedV w e.who = w.acts[e.who.toNat].armed := by unfold armedV; rw [List.getElem?_eq_getElem t3]; rfl
       rw [hd, ha]
       by_cases hd0 : w.acts[e.who.toNat].down = 0
       . rcases hk with hk | hk <;> simp [Wld.av, Evt.av, hk, i1, i2, i3, h0, h1, t3, hd0]
       . rcases hk with hk | hk <;> simp [Wld.av, Evt.av, hk, i1, i2, i3, h0, h1, t3, hd0]
     . rcases hk with hk | hk <;> simp [Wld.av, Evt.av, hk, i1, i2, i3, h0, h1]
   . rcases hk with hk | hk <;> simp [Wld.av, Evt.av, hk, i1, i2, i3, h0]
 . have i2 : (decide (e.id.frm = 0) && (decide (e.id.n = 0) && decide (e.id.cpy = 0))) = false := by
     simp
     intro a b c
     exact i1 ⟨a, b, c⟩
   rcases hk with hk | hk <;> simp [Wld.av, Evt.av, hk, i2]
theorem ecan_no (w : Wld) (e : Evt) (h123 : ¬ (e.kind = 1 \/ e.kind = 2 \/ e.kind = 3)) (h45 : ¬ (e.kind = 4 \/ e.kind = 5)) : PC Tryz.prog 100 [w.av, e.av] (.bool false) := by
 refine pc_of_get ecan_get (by simp) _ (by simp) _ ?_
 unfold ecan_c
 have k1 : e.kind ≠ 1 := fun q => h123 (.inl q)
 have k2 : e.kind ≠ 2 := fun q => h123 (.inr (.inl q))
 have k3 : e.kind ≠ 3 := fun q => h123 (.inr (.inr q))
 have k4 : e.kind ≠ 4 := fun q => h45 (.inl q)
 have k5 : e.kind ≠ 5 := fun q => h45 (.inr q)
 simp [Wld.av, Evt.av, k1, k2, k3, k4, k5]
theorem ecan_pc (w : Wld) (hw : WOk w) (e : Evt) : PC Tryz.prog 100 [w.av, e.av] (.bool (canV w e)) := by
 by_cases h123 : e.kind = 1 \/ e.kind = 2 \/ e.kind = 3
 . cases hi : idxV e.id w.mail with
   | none =>
     have := ecan_none w hw e h123 hi
     obtain ⟨q1, q2⟩ := ntAt_none hi
     unfold canV
     rw [if_pos h123, q1, Bool.and_false]
     exact this
   | some i =>
     obtain ⟨hl, q1, q2⟩ := ntAt_some hi
     unfold canV
     rw [if_pos h123, q1]
     rcases h123 with hk | hk
     . have := ecan_1 w hw e hk i hi hl
       simpa [hk] using this
     . have := ecan_23 w hw e hk i hi
       have k1 : e.kind ≠ 1 := by omega
       simpa [k1] using this
 . by_cases h45 : e.kind = 4 \/ e.kind = 5
   . exact ecan_45 w hw e h45
   . have := ecan_no w e h123 h45
     unfold canV
     rw [if_neg h123, if_neg h45]
     exact this
end Go.Gv

namespace Go.Gv
open Go.Proofs
def eput_c : AC := (.seq (.reg [oA 4 (.box 217004 5 (.t 0))]) (.seq (.reg [oA 5 (.load (some 4) (.t 1)), oF 6 0 4, oL 7 6, oC 8 (.c (.fn 99 [])) [(.t 5), (.t 7)], oM 9 8, oG 10 9 true (.load (some 6) (.t 2)), oG 11 9 true (.load (some 5) (.t 4)), ⟨(some 12), (some (9, true)), (.call (.c (.fn 100 [])) [(.t 10), (.t 11)])⟩, oA 13 (.pick (.t 9) (.t 12) (.c (.bool false)))]) (.cond (.t 13) (.reg [oL 14 3, oA 15 (.load (some 5) (.t 4)), oA 16 (.bsl 217016 5 77 1 (.agg [(.int .i64 0), (.int .i64 0), (.int .i64 0), (.int .i64 0), (.int .i64 0)]) [(0, (.t 15))]), oA 17 (.app 217017 5 77 40 (.t 14) (.t 16)), oN (.store 1 (.t 3) (.t 17))]) .skip)))
set_option maxRecDepth 100000 in
theorem eput_get : getF Tryz.prog 98 217000 [] = some ("gavotte/event.All$1", 18, eput_c, []) := by kernel_rfl
def eall_l0 : AC := (.seq (.reg [oB 28 .lss 27 26]) (.seq (.cond (.t 28) .skip (.exit 2)) (.seq (.block 3 (.seq (.reg [oA 29 (.idx 6 (.t 25) (.t 27)), oA 30 (.load (some 6) (.t 29)), oA 10 (.new 218010 6 (.agg [(.int .i64 0), (.int .i64 0), (.int .i64 0), (.int .i64 0), (.int .i64 0), .nils])), oN (.store 6 (.t 10) (.t 30))]) (.reg [oM 31 6, oM 32 8, oF 33 0 10, oA 34 (.load (some 3) (.t 33)), oA 35 (.build [(.int .i64 0), (.int .i64 0), (.int .i64 0), (.int .i64 0), (.int .i64 0)] [(0, (1, (.t 32))), (1, (3, (.t 34)))]), oC 36 (.t 31) [(.t 35)]]))) (.reg [oZ 37 .add 27 1, oM 27 37]))))
def eall_l1 : AC := (.seq (.reg [oB 21 .lss 20 19]) (.seq (.cond (.t 21) .skip (.exit 0)) (.seq (.block 1 (.seq (.reg [oA 22 (.idx 1 (.t 18) (.t 20)), oL 23 22, oM 8 23]) (.seq (.reg [oF 24 1 3, oL 25 24, oK 26 25, oI 27 0]) (.block 2 (.loop eall_l0))))) (.reg [oZ 38 .add 20 1, oM 20 38]))))
def eall_l2 : AC := (.seq (.reg [oB 49 .lss 48 47]) (.seq (.cond (.t 49) .skip (.exit 6)) (.seq (.block 7 (.seq (.reg [oM 50 48, oM 13 50]) (.reg [oM 51 6, oM 52 12, oM 53 13, oA 54 (.build [(.int .i64 0), (.int .i64 0), (.int .i64 0), (.int .i64 0), (.int .i64 0)] [(0, (1, (.t 52))), (4, (1, (.t 53)))]), oC 55 (.t 51) [(.t 54)]]))) (.reg [oZ 56 .add 48 1, oM 48 56]))))
def eall_l3 : AC := (.seq (.reg [oB 42 .lss 41 40]) (.seq (.cond (.t 42) .skip (.exit 4)) (.seq (.block 5 (.seq (.reg [oA 43 (.idx 1 (.t 39) (.t 41)), oL 44 43, oM 12 44]) (.seq (.reg [oF 45 0 3, oL 46 45, oK 47 46, oI 48 0]) (.block 6 (.loop eall_l2))))) (.reg [oZ 57 .add 41 1, oM 41 57]))))
def eall_c : AC := (.seq (.reg [oA 2 (.box 218002 4 (.t 0)), oA 3 (.box 218003 6 (.t 1)), oA 4 (.new 218004 1 .nils)]) (.seq (.reg [oA 14 (.load (some 4) (.t 2)), oA 15 (.load (some 6) (.t 3)), oC 16 (.c (.fn 97 [])) [(.t 14), (.t 15)], oA 5 (.new 218005 4 (.agg [(.int .i64 0), (.int .i64 0), (.int .i64 0), (.int .i64 0)])), oN (.store 4 (.t 5) (.t 16))]) (.seq (.reg [oA 17 (.mkf 98 [(.t 5), (.t 3), (.t 4)]), oM 6 17]) (.seq (.seq (.reg [oA 18 (.bsl 218018 1 3 3 (.int .i64 0) [(0, (.c (.int .i64 1))), (1, (.c (.int .i64 2))), (2, (.c (.int .i64 3)))]), oK 19 18, oI 20 0]) (.block 0 (.loop eall_l1))) (.seq (.seq (.reg [oA 39 (.bsl 218039 1 3 2 (.int .i64 0) [(0, (.c (.int .i64 4))), (1, (.c (.int .i64 5)))]), oK 40 39, oI 41 0]) (.block 4 (.loop eall_l3))) (.seq (.reg [oL 58 4, oN (.store 1 (.t 4) (.t 58))]) .ret))))))
set_option maxRecDepth 100000 in
theorem eall_get : getF Tryz.prog 60 218000 [] = some ("gavotte/event.All", 59, eall_c, [(.cell none 4)]) := by kernel_rfl
theorem put_v (b : Bud) (w : Wld) (hw : WOk w) (n5 s5 n3 s3 n4 s4 : Nat) (h5 : n5 ≠ 217004) (h3 : n3 ≠ 217004) (h4 : n4 ≠ 217004) (e : Evt) (v : AV) (xs : List AV) (hx : xs.length < 100000) {S : St} {k : AV -> St -> Prop} {u : Dep k}
   (b5 : S.blk n5 = some ⟨s5, 4, [b.av]⟩) (b3 : S.blk n3 = some ⟨s3, 6, [w.av]⟩) (b4 : S.blk n4 = some ⟨s4, 1, [v]⟩) (hv : AccIs S v 217017 5 77 xs)
   (hk : ∀ S' v', S'.t = S.t -> S.clk <= S'.clk -> (∀ n, n ≠ n4 -> n ≠ 217004 -> S'.blk n = S.blk n) -> (∀ n, n ≠ 217016 -> n ≠ 217017 -> S'.tok n = S.tok n) -> S'.blk n4 = some ⟨s4, 1, [v']⟩ -> AccIs S' v' 217017 5 77 (if (paidV b e.kind && canV w e) = true then xs ++ [e.av] else xs) -> k (.tup []) S') :
   CallG Tryz.prog (.fn 98 [.ptr n5 s5 4 0 0, .ptr n3 s3 6 0 0, .ptr n4 s4 1 0 0]) [e.av] S k u := by
 refine callV eput_get (by simp) (by simp) ?_
 unfold eput_c
 simp [h5, h3, h4, b5, b3, b4, Bud.av]
 refine call (epaid_pc b e.kind) (by simp [Bud.av]) ?_
 cases hp : paidV b e.kind with
 | false =>
   simp [h5, h3, h4, b5, b3, b4]
   exact hk _ v rfl (by simp; omega) (fun n a1 a2 => by simp [a2]) (fun _ _ _ => rfl) (by simp [h4, b4]) (by rw [hp]; exact hv)
 | true =>
   simp [h5, h3, h4, b5, b3, b4]
   refine call (ecan_pc w hw e) (by simp [Wld.av, Evt.av]) ?_
   cases hc : canV w e with
   | false =>
     simp [h5, h3, h4, b5, b3, b4]
     exact hk _ v rfl (by simp; omega) (fun n a1 a2 => by simp [a2]) (fun _ _ _ => rfl) (by simp [h4, b4]) (by rw [hp, hc]; exact hv)
   | true =>
     have hbd : (xs.length + 1) * 40 <= 140737488355328 := by omega
     rcases hv with ⟨rfl, rfl⟩ | ⟨st, rfl, ht⟩
     . simp [h5, h3, h4, b5, b3, b4]
       refine hk _ _ rfl (by simp; omega) (fun n a1 a2 => by simp [a1, a2]) (fun n a1 a2 => by simp [a1, a2]) (by simp; rfl) ?_
       rw [hp, hc]
       simp [AccIs, Evt.av]
     . simp [h5, h3, h4, b5, b3, b4, ht, hbd]
       refine hk _ _ rfl (by simp; omega) (fun n a1 a2 => by simp [a1, a2]) (fun n a1 a2 => by simp [a1, a2]) (by simp; rfl) ?_
       rw [hp, hc]
       simp [AccIs, Evt.av]
theorem evM_take (k : Int) (l : List Msg) (i : Nat) (h : i < l.length) : evM k (l.take (i + 1)) = evM k (l.take i) ++ [⟨k, l[i].id, 0⟩] := by
 unfold evM
 rw [List.take_succ_eq_append_getElem h, List.map_append]; rfl
theorem evA_succ (k : Int) (n : Nat) : evA k (n + 1) = evA k n ++ [⟨k, ⟨0, 0, 0⟩, (n : Int)⟩] := by
 unfold evA
 rw [List.range_succ, List.map_append]; rfl
def tstV (b : Bud) (w : Wld) (e : Evt) : Bool := paidV b e.kind && canV w e
def AlI (b : Bud) (w : Wld) (D : List Evt) (S : St) : Prop :=
 ∃ s s3 s4 v, S.t 5 = .ptr 218005 s 4 0 0 /\ S.blk 218005 = some ⟨s, 4, [(leftV b w).av]⟩ /\ S.t 3 = .ptr 218003 s3 6 0 0 /\ S.blk 218003 = some ⟨s3, 6, [w.av]⟩ /\ S.t 4 = .ptr 218004 s4 1 0 0 /\ S.blk 218004 = some ⟨s4, 1, [v]⟩ /\
   S.t 6 = .fn 98 [.ptr 218005 s 4 0 0, .ptr 218003 s3 6 0 0, .ptr 218004 s4 1 0 0] /\ AccIs S v 217017 5 77 ((D.filter (tstV (leftV b w) w)).map Evt.av)
theorem AlI.at {b : Bud} {w : Wld} {D : List Evt} {S S' : St} (h : AlI b w D S) (h3 : S'.t 3 = S.t 3) (h4 : S'.t 4 = S.t 4) (h5 : S'.t 5 = S.t 5) (h6 : S'.t 6 = S.t 6) (hb : ∀ n, n ≠ 218010 -> S'.blk n = S.blk n) (hk : S'.tok 217017 = S.tok 217017) : AlI b w D S' := by
 obtain ⟨s, s3, s4, v, a1, a2, a3, a4, a5, a6, a7, a8⟩ := h
 exact ⟨s, s3, s4, v, h5.trans a1, (hb _ (by simp)).trans a2, h3.trans a3, (hb _ (by simp)).trans a4, h4.trans a5, (hb _ (by simp)).trans a6, h6.trans a7, by simpa [AccIs, hk] using a8⟩
theorem filt_snoc (t : Evt -> Bool) (D : List Evt) (e : Evt) : ((D ++ [e]).filter t).map Evt.av = if t e = true then (D.filter t).map Evt.av ++ [e.av] else (D.filter t).map Evt.av := by
 rw [List.filter_append, List.map_append]
 cases h : t e <;> simp [h]
theorem eall_put (b : Bud) (w : Wld) (hw : WOk w) (D : List Evt) (hD : D.length < 100000) (e : Evt) {fv : AV} {S : St} {k : AV -> St -> Prop} {u : Dep k} (hfv : S.t 6 = fv) (h : AlI b w D S)
   (hk : ∀ S', S'.t = S.t -> (∀ n, n ≠ 218004 -> n ≠ 217004 -> S'.blk n = S.blk n) -> AlI b w (D ++ [e]) S' -> k (.tup []) S') : CallG Tryz.prog fv [e.av] S k u := by
 obtain ⟨s, s3, s4, v, a1, a2, a3, a4, a5, a6, a7, a8⟩ := h
 rw [<- hfv, a7]
 have hl : ((D.filter (tstV (leftV b w) w)).map Evt.av).length < 100000 := by
   rw [List.length_map]
   have := List.length_filter_le (tstV (leftV b w) w) D
   omega
 refine put_v (leftV b w) w hw 218005 s 218003 s3 218004 s4 (by simp) (by simp) (by simp) e v _ hl a2 a4 a6 a8 (fun S' v' q1 q2 q3 q4 q5 q6 => ?_)
 refine hk S' q1 q3 ⟨s, s3, s4, v', by rw [q1, a1], (q3 _ (by simp) (by simp)).trans a2, by rw [q1, a3], (q3 _ (by simp) (by simp)).trans a4, by rw [q1, a5], q5, by rw [q1, a7], ?_⟩
 rw [filt_snoc]
 exact q6
theorem eall_inM (b : Bud) (w : Wld) (hw : WOk w) (kd : Int) (D : List Evt) (hD : D.length <= 50000) {S : St} {κ : Ex -> St -> Prop} {u : Dep κ} (h : AlI b w D S) (h8 : S.t 8 = iv kd) (h25 : S.t 25 = .lst 6 (w.mail.map Msg.av)) (h26 : S.t 26 = iv w.mail.length) (h27 : S.t 27 = iv 0)
   (hk : ∀ S', AlI b w (D ++ evM kd w.mail) S' -> S'.t 18 = S.t 18 -> S'.t 19 = S.t 19 -> S'.t 20 = S.t 20 -> κ (.exit 2) S') : LoopG Tryz.prog eall_l0 κ S u := by
 have hml := hw.ml
 refine loopN (fun i S' => AlI b w (D ++ evM kd (w.mail.take i)) S' /\ S'.t 8 = iv kd /\ S'.t 25 = .lst 6 (w.mail.map Msg.av) /\ S'.t 26 = iv w.mail.length /\ S'.t 27 = iv i /\ S'.t 18 = S.t 18 /\ S'.t 19 = S.t 19 /\ S'.t 20 = S.t 20) w.mail.length ?_ ?_
 . exact ⟨by simpa [evM] using h, h8, h25, h26, h27, rfl, rfl, rfl⟩
 . rintro i S' hi ⟨hA, g8, g25, g26, g27, g18, g19, g20⟩
   by_cases hlt : i < w.mail.length
   . have ws := wrap_succ i _ hlt (by omega)
     simp [eall_l0, g8, g25, g26, g27, hlt]
     refine eall_put b w hw (D ++ evM kd (w.mail.take i)) (by simp [evM]; omega) ⟨kd, w.mail[i].id, 0⟩ (by simp) (hA.at (by simp) (by simp) (by simp) (by simp) (fun n hn => by simp [hn]) rfl) (fun S1 q1 q2 q3 => ?_)
     simp [q1, g8, g25, g26, g27, g18, g19, g20, ws]
     rw [evM_take _ _ _ hlt, <- List.append_assoc]
     exact q3.at (by simp [q1]) (by simp [q1]) (by simp [q1]) (by simp [q1]) (fun _ _ => rfl) rfl
   . have e1 : i = w.mail.length := by omega
     subst e1
     rw [List.take_length] at hA
     simp [eall_l0, g8, g25, g26, g27]
     exact hk _ (hA.at (by simp) (by simp) (by simp) (by simp) (fun _ _ => rfl) rfl) (by simp [g18]) (by simp [g19]) (by simp [g20])
theorem eall_inA (b : Bud) (w : Wld) (hw : WOk w) (kd : Int) (D : List Evt) (hD : D.length <= 50000) {S : St} {κ : Ex -> St -> Prop} {u : Dep κ} (h : AlI b w D S) (h12 : S.t 12 = iv kd) (h47 : S.t 47 = iv w.acts.length) (h48 : S.t 48 = iv 0)
   (hk : ∀ S', AlI b w (D ++ evA kd w.acts.length) S' -> S'.t 39 = S.t 39 -> S'.t 40 = S.t 40 -> S'.t 41 = S.t 41 -> κ (.exit 6) S') : LoopG Tryz.prog eall_l2 κ S u := by
 have hal := hw.al
 refine loopN (fun i S' => AlI b w (D ++ evA kd i) S' /\ S'.t 12 = iv kd /\ S'.t 47 = iv w.acts.length /\ S'.t 48 = iv i /\ S'.t 39 = S.t 39 /\ S'.t 40 = S.t 40 /\ S'.t 41 = S.t 41) w.acts.length ?_ ?_
 . exact ⟨by simpa [evA] using h, h12, h47, h48, rfl, rfl, rfl⟩
 . rintro i S' hi ⟨hA, g12, g47, g48, g39, g40, g41⟩
   by_cases hlt : i < w.acts.length
   . have ws := wrap_succ i _ hlt (by omega)
     simp [eall_l2, g12, g47, g48, hlt]
     refine eall_put b w hw (D ++ evA kd i) (by simp [evA]; omega) ⟨kd, ⟨0, 0, 0⟩, (i : Int)⟩ (by simp) (hA.at (by simp) (by simp) (by simp) (by simp) (fun n hn => rfl) rfl) (fun S1 q1 q2 q3 => ?_)
     simp [q1, g12, g47, g48, g39, g40, g41, ws]
     rw [evA_succ, <- List.append_assoc]
     exact q3.at (by simp [q1]) (by simp [q1]) (by simp [q1]) (by simp [q1]) (fun _ _ => rfl) rfl
   . have e1 : i = w.acts.length := by omega
     subst e1
     simp [eall_l2, g12, g47, g48]
     exact hk _ (hA.at (by simp) (by simp) (by simp) (by simp) (fun _ _ => rfl) rfl) (by simp [g39]) (by simp [g40]) (by simp [g41])
theorem eall_pc (b : Bud) (w : Wld) (hw : WOk w) : PC Tryz.prog 60 [b.av, w.av] (.lst 5 ((allV b w).map Evt.av)) := by
 refine pc_of_get eall_get (by simp) _ (by simp) _ ?_
 unfold eall_c
 simp [Bud.av, Wld.av]
 refine call (eleft_pc b w) (by simp [Bud.av, Wld.av]) ?_
 have hml := hw.ml
 have hal := hw.al
 simp
 refine loopN (fun i S => AlI b w (([1, 2, 3] : List Int).take i |>.flatMap fun k => evM k w.mail) S /\ (∃ q, S.t 18 = .acc 218018 q 1 [iv 1, iv 2, iv 3]) /\ S.t 19 = iv 3 /\ S.t 20 = iv i) 3 ?_ ?_
 . refine ⟨⟨_, _, _, .nils, by simp; rfl, by simp [Bud.av], by simp; rfl, by simp [Wld.av], by simp; rfl, by simp, by simp, ?_⟩, ⟨_, by simp; rfl⟩, by simp, by simp⟩
   simp [AccIs]
 . rintro i S hi ⟨hA, ⟨q, g18⟩, g19, g20⟩
   have hA' := hA
   obtain ⟨s, s3, s4, v, a1, a2, a3, a4, a5, a6, a7, a8⟩ := hA'
   match i, hi, hA, g20 with
   | 0, _, hA, g20 =>
     simp [eall_l1, g18, g19, g20, a3, a4]
     refine eall_inM b w hw 1 _ (by simp [evM] <;> omega) (hA.at (by simp) (by simp) (by simp) (by simp) (fun _ _ => rfl) rfl) (by simp) (by simp) (by simp) (by simp) (fun S1 q1 q2 q3 q4 => ?_)
     simp [q4, g20, wrap1]
     simp at q1
     exact ⟨q1.at (by simp) (by simp) (by simp) (by simp) (fun _ _ => rfl) rfl, ⟨q, by rw [q2]; simp [g18]⟩, by rw [q3]; simp [g19]⟩
   | 1, _, hA, g20 =>
     simp [eall_l1, g18, g19, g20, a3, a4]
     refine eall_inM b w hw 2 _ (by simp [evM] <;> omega) (hA.at (by simp) (by simp) (by simp) (by simp) (fun _ _ => rfl) rfl) (by simp) (by simp) (by simp) (by simp) (fun S1 q1 q2 q3 q4 => ?_)
     simp [q4, g20, wrap2]
     simp at q1
     exact ⟨q1.at (by simp) (by simp) (by simp) (by simp) (fun _ _ => rfl) rfl, ⟨q, by rw [q2]; simp [g18]⟩, by rw [q3]; simp [g19]⟩
   | 2, _, hA, g20 =>
     simp [eall_l1, g18, g19, g20, a3, a4]
     refine eall_inM b w hw 3 _ (by simp [evM] <;> omega) (hA.at (by simp) (by simp) (by simp) (by simp) (fun _ _ => rfl) rfl) (by simp) (by simp) (by simp) (by simp) (fun S1 q1 q2 q3 q4 => ?_)
     simp [q4, g20, wrap3]
     simp at q1
     exact ⟨q1.at (by simp) (by simp) (by simp) (by simp) (fun _ _ => rfl) rfl, ⟨q, by rw [q2]; simp [g18]⟩, by rw [q3]; simp [g19]⟩
   | 3, _, hA, g20 =>
     simp [eall_l1, g18, g19, g20, a3, a4]
     simp at hA
     clear a1 a2 a3 a4 a5 a6 a7 a8
     refine loopN (fun i S => AlI b w ((evM 1 w.mail ++ (evM 2 w.mail ++ evM 3 w.mail)) ++ (([4, 5] : List Int).take i |>.flatMap fun k => evA k w.acts.length)) S /\ (∃ q, S.t 39 = .acc 218039 q 1 [iv 4, iv 5]) /\ S.t 40 = iv 2 /\ S.t 41 = iv i) 2 ?_ ?_
     . refine ⟨?_, ⟨_, by simp; rfl⟩, by simp, by simp⟩
       simp only [List.take_zero, List.flatMap_nil, List.append_nil]
       exact hA.at (by simp) (by simp) (by simp) (by simp) (fun _ _ => rfl) (by simp)
     . rintro i S hi ⟨hA, ⟨q, g39⟩, g40, g41⟩
       have hA' := hA
       obtain ⟨s, s3, s4, v, a1, a2, a3, a4, a5, a6, a7, a8⟩ := hA'
       match i, hi, hA, g41 with
       | 0, _, hA, g41 =>
         simp [eall_l3, g39, g40, g41, a3, a4]
         refine eall_inA b w hw 4 _ (by simp [evM, evA] <;> omega) (hA.at (by simp) (by simp) (by simp) (by simp) (fun _ _ => rfl) rfl) (by simp) (by simp) (by simp) (fun S1 q1 q2 q3 q4 => ?_)
         simp [q4, g41, wrap1]
         simp at q1
         exact ⟨q1.at (by simp) (by simp) (by simp) (by simp) (fun _ _ => rfl) rfl, ⟨q, by rw [q2]; simp [g39]⟩, by rw [q3]; simp [g40]⟩
       | 1, _, hA, g41 =>
         simp [eall_l3, g39, g40, g41, a3, a4]
         refine eall_inA b w hw 5 _ (by simp [evM, evA] <;> omega) (hA.at (by simp) (by simp) (by simp) (by simp) (fun _ _ => rfl) rfl) (by simp) (by simp) (by simp) (fun S1 q1 q2 q3 q4 => ?_)
         simp [q4, g41, wrap2]
         simp at q1
         exact ⟨q1.at (by simp) (by simp) (by simp) (by simp) (fun _ _ => rfl) rfl, ⟨q, by rw [q2]; simp [g39]⟩, by rw [q3]; simp [g40]⟩
       | 2, _, hA, g41 =>
         have e : ((evM 1 w.mail ++ (evM 2 w.mail ++ evM 3 w.mail)) ++ (([4, 5] : List Int).take 2 |>.flatMap fun k => evA k w.acts.length)).filter (tstV (leftV b w) w) = allV b w := by
           unfold allV tstV
           simp
         rw [e] at a8
         rcases a8 with ⟨rfl, hx⟩ | ⟨st, rfl, ht⟩
         . simp [eall_l3, g39, g40, g41, a3, a4, a5, a6, hx]
         . simp [eall_l3, g39, g40, g41, a3, a4, a5, a6]
       | i + 3, h, _, _ => omega
   | i + 4, h, _, _ => omega
end Go.Gv

namespace Go.Gv
open Go.Proofs
def fault_c : AC := (.seq (.reg [oA 1 (.box 219001 5 (.t 0)), oA 2 (.mv (.c (.bool false)))]) (.seq (.reg [oF 3 0 1, oL 4 3, oZ 5 .geq 4 2, oM 6 5, gF 7 6 true 0 1, gL 8 6 true 7, oG 9 6 true (.ibin .leq (.t 8) (.c (.int .i64 5))), oA 10 (.pick (.t 6) (.t 9) (.c (.bool false))), oM 2 10]) .ret))
set_option maxRecDepth 100000 in
theorem fault_get : getF Tryz.prog 204 219000 [] = some ("gavotte/ident.Fault", 11, fault_c, [(.tmp 2)]) := by kernel_rfl
def onekind_c : AC := (.seq (.reg [oA 2 (.box 220002 5 (.t 0)), oA 3 (.box 220003 5 (.t 1)), oA 4 (.mv (.c (.bool false)))]) (.seq (.reg [oF 5 0 2, oL 6 5, oF 7 0 3, oL 8 7, oB 9 .eql 6 8, oM 10 9, oG 11 10 true (.load (some 5) (.t 2)), ⟨(some 12), (some (10, true)), (.call (.c (.fn 204 [])) [(.t 11)])⟩, oA 13 (.pick (.t 10) (.t 12) (.c (.bool false))), oM 4 13]) .ret))
set_option maxRecDepth 100000 in
theorem onekind_get : getF Tryz.prog 158 220000 [] = some ("gavotte/touch.OneKind", 14, onekind_c, [(.tmp 4)]) := by kernel_rfl
def indexI_l0 : AC := (.seq (.reg [oB 9 .lss 8 7]) (.seq (.cond (.t 9) .skip (.exit 0)) (.seq (.block 1 (.seq (.reg [oM 10 8, oM 5 10]) (.seq (.reg [oM 11 1, oM 12 0, oM 13 5, oA 14 (.idx 1 (.t 12) (.t 13)), oL 15 14, oB 16 .eql 11 15]) (.cond (.t 16) (.seq (.reg [oM 17 5, oM 4 17]) .ret) .skip)))) (.reg [oZ 18 .add 8 1, oM 8 18]))))
def indexI_c : AC := (.seq (.reg [oI 4 0]) (.seq (.seq (.reg [oM 6 0, oK 7 6, oI 8 0]) (.block 0 (.loop indexI_l0))) (.seq (.reg [oI 4 (-1)]) .ret)))
set_option maxRecDepth 100000 in
theorem indexI_get : getF Tryz.prog 229 221000 [] = some ("slices.Index[[]int,int]", 19, indexI_c, [(.tmp 4)]) := by kernel_rfl
def contI_c : AC := (.seq (.reg [oA 4 (.mv (.c (.bool false)))]) (.seq (.reg [oM 5 0, oM 6 1, oC 7 (.c (.fn 229 [])) [(.t 5), (.t 6)], oZ 8 .geq 7 0, oM 4 8]) .ret))
set_option maxRecDepth 100000 in
theorem contI_get : getF Tryz.prog 207 222000 [] = some ("slices.Contains[[]int,int]", 9, contI_c, [(.tmp 4)]) := by kernel_rfl
def idxFI_l0 : AC := (.seq (.reg [oB 9 .lss 8 7]) (.seq (.cond (.t 9) .skip (.exit 0)) (.seq (.block 1 (.seq (.reg [oM 10 8, oM 5 10]) (.seq (.reg [oM 11 1, oM 12 0, oM 13 5, oA 14 (.idx 1 (.t 12) (.t 13)), oL 15 14, oC 16 (.t 11) [(.t 15)]]) (.cond (.t 16) (.seq (.reg [oM 17 5, oM 4 17]) .ret) .skip)))) (.reg [oZ 18 .add 8 1, oM 8 18]))))
def idxFI_c : AC := (.seq (.reg [oI 4 0]) (.seq (.seq (.reg [oM 6 0, oK 7 6, oI 8 0]) (.block 0 (.loop idxFI_l0))) (.seq (.reg [oI 4 (-1)]) .ret)))
set_option maxRecDepth 100000 in
theorem idxFI_get : getF Tryz.prog 228 223000 [] = some ("slices.IndexFunc[[]int,int]", 19, idxFI_c, [(.tmp 4)]) := by kernel_rfl
def contFI_c : AC := (.seq (.reg [oA 4 (.mv (.c (.bool false)))]) (.seq (.reg [oM 5 0, oM 6 1, oC 7 (.c (.fn 228 [])) [(.t 5), (.t 6)], oZ 8 .geq 7 0, oM 4 8]) .ret))
set_option maxRecDepth 100000 in
theorem contFI_get : getF Tryz.prog 205 224000 [] = some ("slices.ContainsFunc[[]int,int]", 9, contFI_c, [(.tmp 4)]) := by kernel_rfl
def meets1_c : AC := (.seq (.reg [oA 3 (.mv (.c (.bool false)))]) (.seq (.reg [oL 4 1, oM 5 0, oC 6 (.c (.fn 207 [])) [(.t 4), (.t 5)], oM 3 6]) .ret))
set_option maxRecDepth 100000 in
theorem meets1_get : getF Tryz.prog 206 225000 [] = some ("gavotte/touch.Meets$1", 7, meets1_c, [(.tmp 3)]) := by kernel_rfl
def meets_c : AC := (.seq (.reg [oA 3 (.box 226003 1 (.t 1)), oA 4 (.mv (.c (.bool false)))]) (.seq (.reg [oM 5 0, oA 6 (.mkf 206 [(.t 3)]), oC 7 (.c (.fn 205 [])) [(.t 5), (.t 6)], oM 4 7]) .ret))
set_option maxRecDepth 100000 in
theorem meets_get : getF Tryz.prog 159 226000 [] = some ("gavotte/touch.Meets", 8, meets_c, [(.tmp 4)]) := by kernel_rfl
def apart_c : AC := (.seq (.reg [oA 4 (.box 227004 5 (.t 0)), oA 5 (.box 227005 5 (.t 1)), oA 8 (.mv (.c (.bool false)))]) (.seq (.reg [oA 9 (.load (some 5) (.t 4)), oA 10 (.load (some 5) (.t 5)), oA 11 (.eqs [false, false, false, false, false] true (.t 9) (.t 10)), oM 12 11, oG 13 12 true (.load (some 5) (.t 4)), oG 14 12 true (.load (some 5) (.t 5)), ⟨(some 15), (some (12, true)), (.call (.c (.fn 158 [])) [(.t 13), (.t 14)])⟩, oG 16 12 true (.not (.t 15)), oA 17 (.pick (.t 12) (.t 16) (.c (.bool false))), oM 18 17, gM 19 18 true 2, oG 20 18 true (.len (.t 19)), oG 21 18 true (.ibin .gtr (.t 20) (.c (.int .i64 0))), oA 22 (.pick (.t 18) (.t 21) (.c (.bool false))), oM 23 22, gM 24 23 true 3, oG 25 23 true (.len (.t 24)), oG 26 23 true (.ibin .gtr (.t 25) (.c (.int .i64 0))), oA 27 (.pick (.t 23) (.t 26) (.c (.bool false))), oM 28 27, gM 29 28 true 2, gM 30 28 true 3, ⟨(some 31), (some (28, true)), (.call (.c (.fn 159 [])) [(.t 29), (.t 30)])⟩, oG 32 28 true (.not (.t 31)), oA 33 (.pick (.t 28) (.t 32) (.c (.bool false))), oM 8 33]) .ret))
set_option maxRecDepth 100000 in
theorem apart_get : getF Tryz.prog 120 227000 [] = some ("gavotte/touch.Apart", 34, apart_c, [(.tmp 8)]) := by kernel_rfl
def would_c : AC := (.seq (.reg [oA 3 (.box 228003 4 (.t 0)), oA 4 (.box 228004 6 (.t 1)), oA 5 (.box 228005 5 (.t 2)), oA 6 (.mv (.c .nils))]) (.seq (.seq (.reg [oA 9 (.load (some 6) (.t 4)), oA 10 (.load (some 5) (.t 5)), oC 11 (.c (.fn 100 [])) [(.t 9), (.t 10)], oA 12 (.not (.t 11))]) (.cond (.t 12) (.seq (.reg [oA 6 (.mv (.c .nils))]) .ret) .skip)) (.seq (.seq (.reg [oF 13 0 5, oL 14 13]) (.block 0 (.seq (.reg [oZ 16 .eql 14 1, oM 15 16]) (.cond (.t 15) (.seq (.regd [oF 17 1 4, oL 18 17, oF 19 1 4, oL 20 19, oF 21 1 5, oA 22 (.load (some 3) (.t 21)), oC 23 (.c (.fn 131 [])) [(.t 20), (.t 22)], oA 24 (.idx 6 (.t 18) (.t 23)), oF 25 3 24, oA 26 (.load (some 3) (.t 25)), oA 7 (.new 228007 3 (.agg [(.int .i64 0), (.int .i64 0), .nils])), oN (.store 3 (.t 7) (.t 26))] [[], [0], [], [2], [], [4], [3, 5, 2, 4], [1, 6, 0, 3, 5, 2, 4], [7, 1, 6, 0, 3, 5, 2, 4], [8, 7, 1, 6, 0, 3, 5, 2, 4], [], [10, 9, 6, 0, 1, 2, 3, 4, 5, 7, 8]]) (.seq (.regd [oA 27 (.load (some 4) (.t 3)), oF 28 0 7, oL 29 28, oF 30 0 4, oL 31 30, oF 32 0 7, oL 33 32, oA 34 (.idx 5 (.t 31) (.t 33)), oA 35 (.load (some 5) (.t 34)), oF 36 1 7, oL 37 36, oF 38 2 7, oL 39 38, oC 40 (.c (.fn 184 [])) [(.t 27), (.t 29), (.t 35), (.t 37), (.t 39)], oA 41 (.getf none 5 (.t 40)), oM 6 41] [[], [], [1], [], [3], [], [5], [4, 6, 3, 5], [7, 4, 6, 3, 5], [], [9], [], [11], [0, 2, 8, 10, 12, 1, 7, 4, 6, 3, 5, 9, 11], [13, 0, 2, 8, 10, 12, 1, 7, 4, 6, 3, 5, 9, 11], [14, 13, 0, 1, 2, 3, 4, 5, 6, 7, 8, 9, 10, 11, 12]]) .ret)) (.seq (.reg [oZ 43 .eql 14 4, oM 42 43]) (.cond (.t 42) (.seq (.reg [oF 44 0 4, oL 45 44, oF 46 4 5, oL 47 46, oA 48 (.idx 5 (.t 45) (.t 47)), oA 49 (.load (some 5) (.t 48)), oA 8 (.new 228008 5 (.agg [.nils, (.bool false), (.int .i64 0), (.int .i64 0), (.int .i64 0)])), oN (.store 5 (.t 8) (.t 49))]) (.seq (.reg [oF 50 1 8, oN (.store 1 (.t 50) (.c (.bool false)))]) (.seq (.regd [oA 51 (.load (some 4) (.t 3)), oF 52 4 5, oL 53 52, oA 54 (.load (some 5) (.t 8)), oF 55 1 3, oL 56 55, oF 57 4 5, oL 58 57, oA 59 (.idx 4 (.t 56) (.t 58)), oF 60 2 59, oL 61 60, oC 62 (.c (.fn 184 [])) [(.t 51), (.t 53), (.t 54), (.t 61), (.c .nils)], oA 63 (.getf none 5 (.t 62)), oM 6 63] [[], [], [1], [], [], [4], [], [6], [5, 7, 4, 6], [8, 5, 7, 4, 6], [9, 8, 5, 7, 4, 6], [0, 2, 3, 10, 1, 9, 8, 5, 7, 4, 6], [11, 0, 2, 3, 10, 1, 9, 8, 5, 7, 4, 6], [12, 11, 0, 1, 2, 3, 4, 5, 6, 7, 8, 9, 10]]) .ret))) .skip)))))) (.seq (.reg [oA 6 (.mv (.c .nils))]) .ret))))
set_option maxRecDepth 100000 in
theorem would_get : getF Tryz.prog 157 228000 [] = some ("gavotte/step.Would", 64, would_c, [(.tmp 6)]) := by kernel_rfl
theorem fault_pc (e : Evt) : PC Tryz.prog 204 [e.av] (.bool (faultV e)) := by
 refine pc_of_get fault_get (by simp) _ (by simp) _ ?_
 unfold fault_c faultV
 simp [Evt.av]
 by_cases h : 2 <= e.kind
 . simp [h]
 . simp [h]
theorem onekind_pc (a b : Evt) : PC Tryz.prog 158 [a.av, b.av] (.bool (decide (a.kind = b.kind) && faultV a)) := by
 refine pc_of_get onekind_get (by simp) _ (by simp) _ ?_
 unfold onekind_c
 simp [Evt.av]
 by_cases h : a.kind = b.kind
 . simp [h]
   refine call (fault_pc a) (by simp [Evt.av, h]) ?_
   simp
   exact fun _ => h
 . simp [h]
theorem indexI_pc (l : List Int) (x : Int) (hl : l.length <= 1000) : PC Tryz.prog 229 [ints l, iv x] (iv (idxB (fun y => decide (x = y)) l)) := by
 refine pc_of_get indexI_get (by simp) _ (by simp) _ ?_
 unfold indexI_c
 simp [ints]
 refine loopN (fun i S => S.t 0 = .lst 1 (l.map iv) /\ S.t 1 = iv x /\ S.t 7 = iv l.length /\ S.t 8 = iv i /\ (∀ y ∈ l.take i, (decide (x = y)) = false)) l.length ?_ ?_
 . simp
 . rintro i S hi ⟨g0, g1, g7, g8, gp⟩
   by_cases hlt : i < l.length
   . have hw := wrap_succ i _ hlt (by omega)
     simp [indexI_l0, g0, g1, g7, g8, hlt]
     by_cases h : x = l[i]
     . have e : idxB (fun y => decide (x = y)) l = (i : Int) := by unfold idxB; rw [findIdx_at _ hlt gp (by simpa using h)]
       simp [h, g8]
       rw [<- h, e]
     . simp [h, g0, g1, g7, g8, hw]
       intro y hy
       rw [List.take_succ_eq_append_getElem hlt] at hy
       rcases List.mem_append.1 hy with q | q
       . simpa using gp y q
       . rw [List.mem_singleton.1 q]; exact h
   . have e1 : i = l.length := by omega
     subst e1
     rw [List.take_length] at gp
     have e : idxB (fun y => decide (x = y)) l = -1 := by unfold idxB; rw [findIdx_none _ gp]
     simp [indexI_l0, g0, g1, g7, g8, e]
theorem idxB_pos {α : Type} (p : α -> Bool) (l : List α) : decide (0 <= idxB p l) = l.any p := by
 unfold idxB
 cases h : l.findIdx? p with
 | none =>
   rw [List.findIdx?_eq_none_iff] at h
   have : l.any p = false := by simpa using h
   rw [this]; rfl
 | some i =>
   rw [List.findIdx?_eq_some_iff_getElem] at h
   obtain ⟨h1, h2, _⟩ := h
   have : l.any p = true := List.any_eq_true.2 ⟨_, List.getElem_mem h1, h2⟩
   rw [this]; simp
theorem contI_pc (l : List Int) (x : Int) (hl : l.length <= 1000) : PC Tryz.prog 207 [ints l, iv x] (.bool (l.contains x)) := by
 refine pc_of_get contI_get (by simp) _ (by simp) _ ?_
 unfold contI_c
 simp [ints]
 refine call (indexI_pc l x hl) (by simp [ints]) ?_
 simp
 rw [<- decide_eq_true_iff (p := 0 <= _), idxB_pos]
 simp
@[simp] theorem eqL_evt (a b : Evt) : eqL [false, false, false, false, false] [iv a.kind, iv a.id.frm, iv a.id.n, iv a.id.cpy, iv a.who] [iv b.kind, iv b.id.frm, iv b.id.n, iv b.id.cpy, iv b.who] = some (decide (a = b)) := by
 obtain ⟨k, ⟨x, y, z⟩, w⟩ := a
 obtain ⟨k', ⟨x', y', z'⟩, w'⟩ := b
 by_cases h1 : k = k'
 . by_cases h2 : x = x'
   . by_cases h3 : y = y'
     . by_cases h4 : z = z'
       . by_cases h5 : w = w'
         . simp [eqL, eq1, h1, h2, h3, h4, h5]
         . simp [eqL, eq1, h1, h2, h3, h4, h5, beq_eq_false_iff_ne.2 h5]
       . simp [eqL, eq1, h1, h2, h3, h4, beq_eq_false_iff_ne.2 h4]
     . simp [eqL, eq1, h1, h2, h3, beq_eq_false_iff_ne.2 h3]
   . simp [eqL, eq1, h1, h2, beq_eq_false_iff_ne.2 h2]
 . simp [eqL, eq1, h1, beq_eq_false_iff_ne.2 h1]
theorem idxFI_v (L : Nat -> Bool) (l : List Int) (hl : l.length < 1000000) (fv : AV) (p : Int -> Bool) {S : St} {k : AV -> St -> Prop} {u : Dep k}
   (hf : ∀ x ∈ l, ∀ (S' : St) (κ : AV -> St -> Prop), Fh L S S' -> (∀ S'', Fr L S' S'' -> κ (.bool (p x)) S'') -> CallG Tryz.prog fv [iv x] S' κ .mk)
   (hk : ∀ S', Fr L S S' -> k (iv (idxB p l)) S') :
   CallG Tryz.prog (.fn 228 []) [ints l, fv] S k u := by
 refine callV idxFI_get (by simp) (by simp) ?_
 unfold idxFI_c
 simp [ints]
 refine loopN (fun i S' => S'.t 0 = .lst 1 (l.map iv) /\ S'.t 1 = fv /\ S'.t 7 = iv l.length /\ S'.t 8 = iv i /\ Fh L S S' /\ (∀ x ∈ l.take i, p x = false)) l.length ?_ ?_
 . exact ⟨by simp, by simp, by simp, by simp, ⟨fun _ _ => rfl, fun _ _ => rfl, by simp; omega⟩, by simp⟩
 . rintro i S' hi ⟨g0, g1, g7, g8, gf, gp⟩
   by_cases hlt : i < l.length
   . have hw := wrap_succ i _ hlt (by omega)
     simp [idxFI_l0, g0, g1, g7, g8, hlt]
     refine hf l[i] (List.getElem_mem hlt) _ _ (gf.trans ⟨fun _ _ => rfl, fun _ _ => rfl, by simp; omega⟩) ?_
     rintro S'' hF
     have q1 := hF.t
     cases hp : p l[i] with
     | true =>
       simp [q1, g0, g1, g7, g8]
       have e : idxB p l = (i : Int) := by unfold idxB; rw [findIdx_at p hlt gp hp]
       rw [<- e]
       exact hk _ ⟨rfl, fun n hn => (hF.b n hn).trans (gf.b n hn), fun n hn => (hF.k n hn).trans (gf.k n hn), by have := hF.c; have := gf.c; simp at *; omega⟩
     | false =>
       simp [q1, g0, g1, g7, g8, hw, hlt]
       refine ⟨⟨fun n hn => (hF.b n hn).trans (gf.b n hn), fun n hn => (hF.k n hn).trans (gf.k n hn), by have := hF.c; have := gf.c; simp at *; omega⟩, fun x hx => ?_⟩
       rw [List.take_succ_eq_append_getElem hlt] at hx
       rcases List.mem_append.1 hx with q | q
       . exact gp x q
       . rw [List.mem_singleton.1 q]; exact hp
   . have e1 : i = l.length := by omega
     subst e1
     rw [List.take_length] at gp
     simp [idxFI_l0, g0, g1, g7, g8]
     have e : idxB p l = -1 := by unfold idxB; rw [findIdx_none p gp]
     rw [<- e]
     exact hk _ ⟨rfl, gf.b, gf.k, by have := gf.c; simp at *; omega⟩
theorem meets_pc (x y : List Int) (hx : x.length <= 1000) (hy : y.length <= 1000) : PC Tryz.prog 159 [ints x, ints y] (.bool (x.any fun n => y.contains n)) := by
 refine pc_of_get meets_get (by simp) _ (by simp) _ ?_
 unfold meets_c
 simp [ints]
 refine callV contFI_get (by simp) (by simp) ?_
 unfold contFI_c
 simp
 refine idxFI_v (fun _ => false) x (by omega) _ (fun n => decide (n ∈ y)) (fun n hn S' κ hF hκ => ?_) (fun S' hF => ?_)
 . refine callV meets1_get (by simp) (by simp) ?_
   unfold meets1_c
   have hb : S'.blk 226003 = some ⟨0, 1, [.lst 1 (y.map iv)]⟩ := (hF.b _ rfl).trans (by simp)
   simp [hb]
   refine call (contI_pc y n hy) (by simp [ints]) ?_
   simp
   exact hκ _ ⟨rfl, fun _ _ => rfl, fun _ _ => rfl, by simp only []; omega⟩
 . have := idxB_pos (fun n => decide (n ∈ y)) x
   simp [hF.t]
   exact this
theorem apart_pc (a b : Evt) (x y : List Int) (hx : x.length <= 1000) (hy : y.length <= 1000) : PC Tryz.prog 120 [a.av, b.av, ints x, ints y] (.bool (apartV a b x y)) := by
 refine pc_of_get apart_get (by simp) _ (by simp) _ ?_
 unfold apart_c apartV
 simp [Evt.av, ints]
 by_cases h1 : a = b
 . simp [h1]
 . simp [h1]
   refine call (onekind_pc a b) (by simp [Evt.av]) ?_
   cases hk : (decide (a.kind = b.kind) && faultV a) with
   | true => simp
   | false =>
     simp
     cases x with
     | nil => simp
     | cons x0 xs =>
       simp
       cases y with
       | nil => simp
       | cons y0 ys =>
         simp
         refine call (meets_pc (x0 :: xs) (y0 :: ys) hx hy) (by simp [ints]) ?_
         simp
         exact fun _ _ _ => h1
def GoOk (p : Prg) (who : Int) (l : Lcl) (h : Int) (args : List Int) : Prop :=
 ∃ x, 0 <= h /\ p.hs[h.toNat]? = some x /\ (0 <= p.fuel /\ p.fuel <= 1000) /\ l.regs.length <= 1000 /\ RunOk (fxOf p who l args) x.code (p.fuel.toNat + 1) (m0Of l) 0
theorem goV_pc (p : Prg) (who : Int) (l : Lcl) (h : Int) (args : List Int) (hg : GoOk p who l h args) : PC Tryz.prog 184 [p.av, iv who, l.av, iv h, ints args] (goV p who l h args).av := by
 obtain ⟨x, h0, hx, hf, hl, hr⟩ := hg
 have := go_pc p who l h args x h0 hx hf hl hr
 unfold goV
 rw [hx]
 exact this
structure WGo (p : Prg) (w : Wld) : Prop where
 nt : ∀ m ∈ w.mail, GoOk p m.note.to (lclV w m.note.to) m.note.hd m.note.args
 tm : ∀ i : Nat, i < w.acts.length -> armedV w i = true -> GoOk p i { lclV w i with armed := false } (timerV p i) []
 al : w.acts.length = p.as.length
@[simp] theorem Prg.cells_av' (p : Prg) : p.av.cells = [.lst 2 (p.hs.map Hnd.av), .lst 4 (p.as.map Actr.av), .lst 3 (p.boot.map Nt.av), iv p.fuel] := rfl
@[simp] theorem Lcl.cells_av' (l : Lcl) : l.av.cells = [ints l.regs, .bool l.armed, iv l.down, iv l.sent, iv l.over] := rfl
theorem canV_1 {w : Wld} {e : Evt} (hc : canV w e = true) (hk : e.kind = 1) : ∃ i, idxV e.id w.mail = some i := by
 cases hi : idxV e.id w.mail with
 | some i => exact ⟨i, rfl⟩
 | none =>
   obtain ⟨q1, _⟩ := ntAt_none hi
   unfold canV at hc
   rw [if_pos (.inl hk), q1] at hc
   simp at hc
theorem canV_4 {w : Wld} {e : Evt} (hc : canV w e = true) (hk : e.kind = 4) : 0 <= e.who /\ e.who < w.acts.length /\ armedV w e.who = true := by
 unfold canV at hc
 rw [if_neg (by omega), if_pos (.inl hk)] at hc
 simp [hk] at hc
 exact ⟨hc.1.1.1.2, hc.1.1.2, hc.2⟩
theorem would_pc (p : Prg) (w : Wld) (hw : WOk w) (hg : WGo p w) (e : Evt) : PC Tryz.prog 157 [p.av, w.av, e.av] (.lst 3 ((wouldV p w e).map Nt.av)) := by
 refine pc_of_get would_get (by simp) _ (by simp) _ ?_
 unfold would_c wouldV
 simp [Prg.av, Wld.av, Evt.av]
 refine call (ecan_pc w hw e) (by simp [Wld.av, Evt.av]) ?_
 cases hc : canV w e with
 | false => simp
 | true =>
   simp
   by_cases h1 : e.kind = 1
   . obtain ⟨i, hi⟩ := canV_1 hc h1
     obtain ⟨hl, q1, q2⟩ := ntAt_some hi
     obtain ⟨t1, t2⟩ := hw.to _ (List.getElem_mem hl)
     have t3 : w.mail[i].note.to.toNat < w.acts.length := by omega
     have hG := goV_pc p _ _ _ _ (hg.nt _ (List.getElem_mem hl))
     have hlc : lclV w w.mail[i].note.to = w.acts[w.mail[i].note.to.toNat] := by unfold lclV; rw [List.getElem?_eq_getElem t3]; rfl
     rw [hlc] at hG
     have hf := mfind_pc w.mail e.id hw.ml
     rw [q2] at hf
     simp [h1, q1, hlc]
     refine calld hf (by simp [MId.av]) ?_
     simp [hl, t1, t3]
     refine calld hG (by simp [Prg.av, Lcl.av]) ?_
     simp [Res.av]
     rw [if_pos h1, q1]
     simp [hlc]
   . by_cases h4 : e.kind = 4
     . obtain ⟨u1, u2, u3⟩ := canV_4 hc h4
       have t3 : e.who.toNat < w.acts.length := by omega
       have t4 : e.who.toNat < p.as.length := by rw [<- hg.al]; exact t3
       have ec : ((e.who.toNat : Nat) : Int) = e.who := by omega
       have u2' : e.who < p.as.length := by rw [<- hg.al]; exact u2
       have hG := hg.tm e.who.toNat t3
       rw [ec] at hG
       replace hG := goV_pc p _ _ _ _ (hG u3)
       have hlc : lclV w e.who = w.acts[e.who.toNat] := by unfold lclV; rw [List.getElem?_eq_getElem t3]; rfl
       have htm : timerV p e.who = p.as[e.who.toNat].timer := by unfold timerV; rw [List.getElem?_eq_getElem t4]; rfl
       rw [hlc, htm] at hG
       simp [h1, h4, u1, u2, u2', t3, t4]
       refine calldC hG 1 (by simp [Prg.av, Lcl.av, dco, elemR, coL, co1, ints]) ?_
       simp [Res.av]
       rw [if_neg h1, if_pos h4, hlc, htm]
     . simp [h1, h4]
end Go.Gv
