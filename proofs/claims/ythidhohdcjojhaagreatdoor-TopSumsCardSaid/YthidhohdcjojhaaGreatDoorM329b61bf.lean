/- Texts of this proof, one behind the other. What is proved, and on which conditions, stands ahead of each. -/
import Derived.Test.YthidhohdcjojhaaGreatDoorProg
import Derived.Test.YthidhohdcjojhaaGreatDoorM192658a4
import Derived.Test.YthidhohdcjojhaaGreatDoorM31b5864d
import Derived.Test.YthidhohdcjojhaaGreatDoorM18da55f3

set_option linter.unusedVariables false
set_option linter.unusedSimpArgs false
namespace Go.Gv
open Go.Proofs
def wprog_r5 : List AI := [oM 24 0, oF 25 0 6, oL 26 25, oA 27 (.bsl 335027 1 3 1 (.int .i64 0) [(0, (.t 26))]), oC 28 (.c (.fn 32 [])) [(.t 24), (.t 27)], oF 29 1 6, oL 30 29, oC 31 (.c (.fn 34 [])) [(.t 28), (.t 30)], oM 0 31]
def wprog_p5 : List (List Nat) := [[], [], [1], [2, 1], [0, 3, 2, 1], [], [5], [4, 6, 0, 3, 2, 1, 5], [7, 0, 1, 2, 3, 4, 5, 6]]
def wprog_l0 : AC := (.seq (.reg [oB 21 .lss 20 19]) (.seq (.cond (.t 21) .skip (.exit 0)) (.seq (.block 1 (.seq (.reg [oA 22 (.idx 2 (.t 18) (.t 20)), oA 23 (.load (some 2) (.t 22)), oA 6 (.new 335006 2 (.agg [(.int .i64 0), .nils])), oN (.store 2 (.t 6) (.t 23))]) (.regi wprog_r5 wprog_p5))) (.reg [oZ 32 .add 20 1, oM 20 32]))))
def wprog_r11 : List AI := [oM 46 0, oF 47 0 8, oL 48 47, oC 49 (.c (.fn 65 [])) [(.t 46), (.t 48)], oF 50 1 8, oL 51 50, oF 52 2 8, oL 53 52, oF 54 3 8, oL 55 54, oC 56 (.c (.fn 66 [])) [(.t 55)], oA 57 (.bsl 335057 1 3 3 (.int .i64 0) [(0, (.t 51)), (1, (.t 53)), (2, (.t 56))]), oC 58 (.c (.fn 32 [])) [(.t 49), (.t 57)], oM 0 58]
def wprog_p11 : List (List Nat) := [[], [], [1], [0, 2, 1], [], [4], [], [6], [], [8], [9, 3, 8, 0, 2, 1], [5, 7, 10, 4, 6, 9, 3, 8, 0, 2, 1], [3, 11, 10, 0, 2, 1, 5, 7, 4, 6, 9, 8], [12, 0, 1, 2, 3, 4, 5, 6, 7, 8, 9, 10, 11]]
def wprog_l1 : AC := (.seq (.reg [oB 43 .lss 42 41]) (.seq (.cond (.t 43) .skip (.exit 2)) (.seq (.block 3 (.seq (.reg [oA 44 (.idx 4 (.t 40) (.t 42)), oA 45 (.load (some 4) (.t 44)), oA 8 (.new 335008 4 (.agg [.nils, (.int .i64 0), (.int .i64 0), (.bool false)])), oN (.store 4 (.t 8) (.t 45))]) (.regi wprog_r11 wprog_p11))) (.reg [oZ 59 .add 42 1, oM 42 59]))))
def wprog_r17 : List AI := [oM 73 0, oF 74 0 10, oL 75 74, oF 76 1 10, oL 77 76, oA 78 (.bsl 335078 1 3 2 (.int .i64 0) [(0, (.t 75)), (1, (.t 77))]), oC 79 (.c (.fn 32 [])) [(.t 73), (.t 78)], oF 80 2 10, oL 81 80, oC 82 (.c (.fn 65 [])) [(.t 79), (.t 81)], oM 0 82]
def wprog_p17 : List (List Nat) := [[], [], [1], [], [3], [2, 4, 1, 3], [0, 5, 2, 4, 1, 3], [], [7], [6, 8, 0, 5, 2, 4, 1, 3, 7], [9, 0, 1, 2, 3, 4, 5, 6, 7, 8]]
def wprog_l2 : AC := (.seq (.reg [oB 70 .lss 69 68]) (.seq (.cond (.t 70) .skip (.exit 4)) (.seq (.block 5 (.seq (.reg [oA 71 (.idx 3 (.t 67) (.t 69)), oA 72 (.load (some 3) (.t 71)), oA 10 (.new 335010 3 (.agg [(.int .i64 0), (.int .i64 0), .nils])), oN (.store 3 (.t 10) (.t 72))]) (.regi wprog_r17 wprog_p17))) (.reg [oZ 83 .add 69 1, oM 69 83]))))
def wprog_c : AC := (.seq (.reg [oA 3 (.box 335003 4 (.t 1)), oA 4 (.mv (.c .nils))]) (.seq (.reg [oM 11 0, oF 12 0 3, oL 13 12, oK 14 13, oA 15 (.bsl 335015 1 3 1 (.int .i64 0) [(0, (.t 14))]), oC 16 (.c (.fn 32 [])) [(.t 11), (.t 15)], oM 0 16]) (.seq (.seq (.reg [oF 17 0 3, oL 18 17, oK 19 18, oI 20 0]) (.block 0 (.loop wprog_l0))) (.seq (.reg [oM 33 0, oF 34 1 3, oL 35 34, oK 36 35, oA 37 (.bsl 335037 1 3 1 (.int .i64 0) [(0, (.t 36))]), oC 38 (.c (.fn 32 [])) [(.t 33), (.t 37)], oM 0 38]) (.seq (.seq (.reg [oF 39 1 3, oL 40 39, oK 41 40, oI 42 0]) (.block 2 (.loop wprog_l1))) (.seq (.reg [oM 60 0, oF 61 2 3, oL 62 61, oK 63 62, oA 64 (.bsl 335064 1 3 1 (.int .i64 0) [(0, (.t 63))]), oC 65 (.c (.fn 32 [])) [(.t 60), (.t 64)], oM 0 65]) (.seq (.seq (.reg [oF 66 2 3, oL 67 66, oK 68 67, oI 69 0]) (.block 4 (.loop wprog_l2))) (.seq (.reg [oM 84 0, oF 85 3 3, oL 86 85, oA 87 (.bsl 335087 1 3 1 (.int .i64 0) [(0, (.t 86))]), oC 88 (.c (.fn 32 [])) [(.t 84), (.t 87)], oM 4 88]) .ret))))))))
set_option maxRecDepth 100000 in
theorem wprog_get : getF Tryz.prog 33 335000 [(2000005, 1), (2000011, 1), (2000017, 1)] = some ("gavotte/wire.putProgram", 89, wprog_c, [(.tmp 4)]) := by kernel_rfl
def wenc_r1 : List AI := [oA 7 (.bsl 329997 1 5 4 (.int .u8 0) [(0, (.c (.int .u8 71))), (1, (.c (.int .u8 65))), (2, (.c (.int .u8 86))), (3, (.c (.int .u8 49)))]), oA 8 (.mark (.t 7)), oF 9 0 1, oA 10 (.load (some 4) (.t 9)), oC 11 (.c (.fn 33 [])) [(.t 8), (.t 10)], oF 12 4 1, oL 13 12, oK 14 13, oA 15 (.bsl 330005 1 3 1 (.int .i64 0) [(0, (.t 14))]), oC 16 (.c (.fn 32 [])) [(.t 11), (.t 15)], oM 4 16]
def wenc_p1 : List (List Nat) := [[], [0], [], [2], [1, 3, 0, 2], [], [5], [6, 5], [7, 6, 5], [4, 8, 1, 3, 0, 2, 7, 6, 5], [9, 0, 1, 2, 3, 4, 5, 6, 7, 8]]
def wenc_l0 : AC := (.seq (.reg [oB 21 .lss 20 19]) (.seq (.cond (.t 21) .skip (.exit 0)) (.seq (.block 1 (.seq (.reg [oA 22 (.idx 1 (.t 18) (.t 20)), oL 23 22, oM 6 23]) (.reg [oM 24 4, oM 25 6, oC 26 (.c (.fn 34 [])) [(.t 24), (.t 25)], oM 4 26]))) (.reg [oZ 27 .add 20 1, oM 20 27]))))
def wenc_c : AC := (.seq (.reg [oA 1 (.box 329991 11 (.t 0)), oA 2 (.mv (.c .nils)), oI 3 0]) (.seq (.regi wenc_r1 wenc_p1) (.seq (.seq (.reg [oF 17 4 1, oL 18 17, oK 19 18, oI 20 0]) (.block 0 (.loop wenc_l0))) (.seq (.reg [oM 28 4, oF 29 5 1, oF 30 0 29, oL 31 30, oF 32 5 1, oF 33 1 32, oL 34 33, oF 35 5 1, oF 36 2 35, oL 37 36, oF 38 5 1, oF 39 3 38, oL 40 39, oF 41 9 1, oF 42 0 41, oL 43 42, oF 44 9 1, oF 45 1 44, oL 46 45, oA 47 (.bsl 330037 1 3 6 (.int .i64 0) [(0, (.t 31)), (1, (.t 34)), (2, (.t 37)), (3, (.t 40)), (4, (.t 43)), (5, (.t 46))]), oC 48 (.c (.fn 32 [])) [(.t 28), (.t 47)], oM 4 48]) (.seq (.seq (.reg [oM 49 4, oK 50 49, oZ 51 .gtr 50 65536]) (.cond (.t 51) (.seq (.reg [oA 2 (.mv (.c .nils)), oI 3 3]) .ret) .skip)) (.seq (.reg [oM 52 4, oM 2 52, oI 3 0]) .ret))))))
set_option maxRecDepth 100000 in
theorem wenc_get : getF Tryz.prog 21 329990 [(2000001, 1)] = some ("gavotte/wire.Encode", 53, wenc_c, [(.tmp 2), (.tmp 3)]) := by kernel_rfl
attribute [simp] wprog_r5 wprog_p5 wprog_r11 wprog_p11 wprog_r17 wprog_p17 wenc_r1 wenc_p1
def hdN (h : Hnd) : List Int := h.args :: codeN h.code
def bi (b : Bool) : Int := if b = true then 1 else 0
def nsN (l : List Int) : List Int := (l.length : Int) :: l
def acN (a : Actr) : List Int := nsN a.regs ++ [a.cap, a.timer, bi a.armed]
def ntN (n : Nt) : List Int := n.to :: n.hd :: nsN n.args
structure RegTo (S S' : St) (w : AV) (xs : List AV) (d lo hi : Nat) (O : Nat -> Prop) : Prop where
 v : S'.t d = w
 a : AccB S' w xs
 t : ∀ x, x ≠ d -> x < lo \/ hi <= x -> S'.t x = S.t x
 b : ∀ n, O n -> S'.blk n = S.blk n
 c : S.clk <= S'.clk
structure RW (S : St) (v : AV) (d lo hi : Nat) (O : Nat -> Prop) (m : Nat) (cs : List (Nat × List AV)) (n : Nat) (S' : St) : Prop where
 v : n <= m -> S'.t d = v
 t : ∀ x, x ≠ d -> x < lo \/ hi <= x -> S'.t x = S.t x
 b : ∀ n, O n -> S'.blk n = S.blk n
 c : S.clk <= S'.clk
 a : ∀ (s : Nat) (xs : List AV), cs[n]? = some (s, xs) -> AccB S' (S'.t s) xs
theorem RW.plain {S S' : St} {v : AV} {d lo hi : Nat} {O : Nat -> Prop} {m : Nat} {cs : List (Nat × List AV)} {n : Nat} (h : RW S v d lo hi O m cs n S') (x : Nat) (h1 : lo <= x) (h2 : x < hi) (h3 : x ≠ d) (h4 : (cs.map (·.1)).contains x = false) (e : Eff) (hb : e.wb = []) (ht : e.wt.all (fun p => decide (330000 <= p.1)) = true) :
   RW S v d lo hi O m cs n (S'.app (some x) e) := by
 have et : ∀ y, y ≠ x -> (S'.app (some x) e).t y = S'.t y := fun y hy => by rw [St.app_t, if_neg (by simpa using fun q => hy q.symm)]
 refine ⟨fun q => (et d (Ne.symm h3)).trans (h.v q), fun y q1 q2 => (et y (by omega)).trans (h.t y q1 q2), fun k hk => ?_, h.c, fun s xs hs => ?_⟩
 . show appB S'.blk e.wb k = _
   rw [hb]
   exact h.b k hk
 . have hsx : s ≠ x := by
     rintro rfl
     have : s ∈ cs.map (·.1) := List.mem_map.2 ⟨_, List.mem_of_getElem? hs, rfl⟩
     rw [<- List.contains_iff_mem, h4] at this
     cases this
   rw [et s hsx]
   refine (h.a s xs hs).at fun k hk => ?_
   show appT S'.tok e.wt k = _
   refine appT_not (fun q => ?_) _
   obtain ⟨p, hp, rfl⟩ := List.mem_map.1 q
   have := List.all_eq_true.1 ht p hp
   simp at this
   omega
theorem RW.op {P : Program} {S S' : St} {v : AV} {d lo hi : Nat} {O : Nat -> Prop} {m : Nat} {cs : List (Nat × List AV)} {n : Nat} (h : RW S v d lo hi O m cs n S') (x : Nat) (w : AV) (o : AOp) (st : Nat) (e : Eff) (he : ex S'.t S'.blk S'.tok st o = some e) (hw : e.v = w) (h1 : lo <= x) (h2 : x < hi) (h3 : x ≠ d) (h4 : (cs.map (·.1)).contains x = false)
   (hb : e.wb = []) (ht : e.wt.all (fun p => decide (330000 <= p.1)) = true) : stepV P st ⟨some x, none, .op o⟩ S' fun S'' => RW S v d lo hi O m cs n S'' /\ S''.t x = w /\ ∀ y, y ≠ x -> S''.t y = S'.t y :=
 stepV_op e he ⟨h.plain x h1 h2 h3 h4 e hb ht, by rw [St.app_t, if_pos rfl, hw], fun y hy => by rw [St.app_t, if_neg (by simpa using fun q => hy q.symm)]⟩
theorem RW.pcall {P : Program} {S S' : St} {v : AV} {d lo hi : Nat} {O : Nat -> Prop} {m : Nat} {cs : List (Nat × List AV)} {n : Nat} (h : RW S v d lo hi O m cs n S') (x : Nat) (w : AV) (f : FuncId) (l : List X) (st : Nat) {cargs : List AV} (hpc : PC P f cargs w) (hco : coL (co none) (l.map (·.ev S'.t) ++ []) cargs) (h1 : lo <= x) (h2 : x < hi) (h3 : x ≠ d) (h4 : (cs.map (·.1)).contains x = false) :
   stepV P st ⟨some x, none, .call (.c (.fn f [])) l⟩ S' fun S'' => RW S v d lo hi O m cs n S'' /\ S''.t x = w /\ ∀ y, y ≠ x -> S''.t y = S'.t y :=
 stepV_call (call hpc hco ⟨h.plain x h1 h2 h3 h4 ⟨w, [], []⟩ rfl rfl, by rw [St.put_t, if_pos rfl], fun y hy => by rw [St.put_t, if_neg (by simpa using fun q => hy q.symm)]⟩)
theorem RW.call {S S' S'' : St} {v : AV} {d lo hi : Nat} {O : Nat -> Prop} {m : Nat} {cs : List (Nat × List AV)} {n : Nat} (h : RW S v d lo hi O m cs n S') (x : Nat) (h1 : lo <= x) (h2 : x < hi) (h3 : x ≠ d) (h5 : n + 1 <= m) (w : AV) (et : S''.t = S'.t) (eb : ∀ n, O n -> S''.blk n = S'.blk n) (ec : S'.clk <= S''.clk)
   (xs : List AV) (hc : cs[n + 1]? = some (x, xs)) (ha : AccB S'' w xs) : RW S v d lo hi O m cs (n + 1) (S''.put (some x) w) := by
 have e1 : ∀ y, y ≠ x -> (S''.put (some x) w).t y = S'.t y := fun y hy => by rw [St.put_t, if_neg (by simpa using fun q => hy q.symm), et]
 refine ⟨fun q => (e1 d (Ne.symm h3)).trans (h.v (by omega)), fun y q1 q2 => (e1 y (by omega)).trans (h.t y q1 q2), fun k hk => (eb k hk).trans (h.b k hk), Nat.le_trans h.c ec, fun s ys hs => ?_⟩
 rw [hc] at hs
 cases hs
 rw [St.put_t, if_pos rfl]
 exact ha.at fun _ _ => rfl
theorem RW.last {S S' : St} {v : AV} {d lo hi : Nat} {O : Nat -> Prop} {m : Nat} {cs : List (Nat × List AV)} {n : Nat} (h : RW S v d lo hi O m cs n S') (hm : m <= n) (s : Nat) (xs : List AV) (hc : cs[n]? = some (s, xs)) (hd : cs[n + 1]? = some (d, xs)) :
   RW S v d lo hi O m cs (n + 1) (S'.app (some d) ⟨S'.t s, [], []⟩) := by
 refine ⟨fun q => by omega, fun y q1 q2 => ?_, h.b, h.c, fun s' ys hs => ?_⟩
 . rw [St.app_t, if_neg (by simpa using fun q => q1 q.symm)]
   exact h.t y q1 q2
 . rw [hd] at hs
   cases hs
   rw [St.app_t, if_pos rfl]
   exact (h.a s xs hc).at fun _ _ => rfl
theorem slot_put {S S' : St} {x : Nat} {w : AV} {ds : List (Option Nat)} (et : S'.t = S.t) (hx : ds.contains (some x) = false) : ∀ d, some d ∈ ds -> (S'.put (some x) w).t d = S.t d := by
 intro d hd
 rw [St.put_t, if_neg ?_, et]
 intro q
 cases q
 rw [<- List.contains_iff_mem, hx] at hd
 cases hd
theorem slot_app {S : St} {x : Nat} {e : Eff} {ds : List (Option Nat)} (hx : ds.contains (some x) = false) : ∀ d, some d ∈ ds -> (S.app (some x) e).t d = S.t d := by
 intro d hd
 rw [St.app_t, if_neg ?_]
 intro q
 cases q
 rw [<- List.contains_iff_mem, hx] at hd
 cases hd
theorem reg5 (h : Hnd) (hh : Ok64 (hdN h)) (v : AV) (xs : List AV) (hx : xs.length <= 8000000) (s st : Nat) {S : St} {k : St -> Prop} {u : Dep k}
   (h0 : S.t 0 = v) (h6 : S.t 6 = .ptr 335006 s 2 0 0) (hb : S.blk 335006 = some ⟨s, 2, [h.av]⟩) (hv : AccB S v xs)
   (hk : ∀ S' w, RegTo S S' w (xs ++ encA (hdN h)) 0 24 32 (fun n => n ≠ 334006) -> k S') : regIG Tryz.prog wprog_p5 st wprog_r5 S k u := by
 have ha : Ok64 [h.args] := ⟨by simpa using hh.head, by simp⟩
 have hal := ha.len
 refine regi_row [some 24, some 25, some 26, some 27, none, some 29, some 30, none, none] [4, 7, 8]
   (fun d => if d = 24 then v else if d = 25 then .ptr 335006 s 2 0 0 else if d = 26 then iv h.args else if d = 27 then .acc 335027 (st + 3) 1 [iv h.args] else if d = 29 then .ptr 335006 s 2 0 1 else .lst 2 (h.code.map Ins.av))
   (RW S v 0 24 32 (fun n => n ≠ 334006) 2 [(0, xs), (28, xs ++ encA [h.args]), (31, xs ++ encA (hdN h)), (0, xs ++ encA (hdN h))]) (by decide)
   ⟨fun _ => h0, fun _ _ _ => rfl, fun _ _ => rfl, Nat.le_refl _, fun s' ys q => by simp at q; obtain ⟨rfl, rfl⟩ := q; rw [h0]; exact hv⟩ ?_ ?_ ?_
 . rintro n S' j ai d hj hd hpre h1 h2 r
   have t6 := (r.t 6 (by decide) (.inl (by decide))).trans h6
   have b6 := (r.b 335006 (by decide)).trans hb
   match j, hj, hd, hpre, h1, h2 with
   | 0, hj, hd, hpre, h1, h2 =>
     simp at hj hd hpre; subst hj hd
     exact r.op 24 _ _ _ _ rfl (r.v (Nat.le_trans (h2 0 4 rfl (by decide)) (by decide))) (by decide) (by decide) (by decide) rfl rfl rfl
   | 1, hj, hd, hpre, h1, h2 =>
     simp at hj hd hpre; subst hj hd
     exact r.op 25 _ _ _ ⟨_, [], []⟩ (by simp [t6]) rfl (by decide) (by decide) (by decide) rfl rfl rfl
   | 2, hj, hd, hpre, h1, h2 =>
     simp at hj hd hpre; subst hj hd
     exact r.op 26 _ _ _ ⟨_, [], []⟩ (by simp [hpre, b6]) rfl (by decide) (by decide) (by decide) rfl rfl rfl
   | 3, hj, hd, hpre, h1, h2 =>
     simp at hj hd hpre; subst hj hd
     exact r.op 27 _ _ _ ⟨_, [], _⟩ (by simp [hpre]; exact rfl) rfl (by decide) (by decide) (by decide) rfl rfl rfl
   | 5, hj, hd, hpre, h1, h2 =>
     simp at hj hd hpre; subst hj hd
     exact r.op 29 _ _ _ ⟨_, [], []⟩ (by simp [t6]) rfl (by decide) (by decide) (by decide) rfl rfl rfl
   | 6, hj, hd, hpre, h1, h2 =>
     simp at hj hd hpre; subst hj hd
     exact r.op 30 _ _ _ ⟨_, [], []⟩ (by simp [hpre, b6]) rfl (by decide) (by decide) (by decide) rfl rfl rfl
   | 4, hj, hd, _, _, _ => simp at hd
   | 7, hj, hd, _, _, _ => simp at hd
   | 8, hj, hd, _, _, _ => simp at hd
   | j + 9, hj, _, _, _, _ => simp at hj
 . rintro n S' j ai hn hj hpre r
   match n, hn with
   | 0, hn =>
     simp at hn; subst hn
     simp at hj hpre; subst hj
     obtain ⟨p0, p3, p2, p1⟩ := hpre
     have a0 := r.a 0 xs rfl
     rw [r.v (by decide)] at a0
     refine stepV_call ?_
     simp [p0, p3]
     exact wput_a [h.args] ha _ _ v xs (by omega) a0 fun S2 w b1 b2 b3 b4 => ⟨r.call 28 (by decide) (by decide) (by decide) (by decide) w b2 (fun n _ => by rw [b3]) b4 _ rfl b1, slot_put b2 rfl⟩
   | 1, hn =>
     simp at hn; subst hn
     simp at hj hpre; subst hj
     have a0 := r.a 28 _ rfl
     refine stepV_call ?_
     simp [hpre]
     refine wputc_v h.code hh.tail _ _ (by simp; omega) a0 fun S2 w b1 b2 b3 b4 => ⟨r.call 31 (by decide) (by decide) (by decide) (by decide) w b2 b3 b4 _ rfl ?_, slot_put b2 rfl⟩
     rw [hdN, encA_cons, <- List.append_assoc]
     exact b1
   | 2, hn =>
     simp at hn; subst hn
     simp at hj hpre; subst hj
     exact stepV_op _ rfl ⟨r.last (by decide) 31 _ rfl rfl, slot_app rfl⟩
   | n + 3, hn => simp at hn
 . intro S' r
   exact hk S' _ ⟨rfl, r.a 0 _ rfl, r.t, r.b, r.c⟩
theorem reg11 (h : Actr) (hh : Ok64 (acN h)) (v : AV) (xs : List AV) (hx : xs.length <= 8000000) (s st : Nat) {S : St} {k : St -> Prop} {u : Dep k}
   (h0 : S.t 0 = v) (h8 : S.t 8 = .ptr 335008 s 4 0 0) (hb : S.blk 335008 = some ⟨s, 4, [h.av]⟩) (hv : AccB S v xs)
   (hk : ∀ S' w, RegTo S S' w (xs ++ encA (acN h)) 0 46 59 (fun n => n ≠ 334006) -> k S') : regIG Tryz.prog wprog_p11 st wprog_r11 S k u := by
 have hr : Ok64 (nsN h.regs) := ⟨fun n hn => hh.1 n (by simp [acN, hn]), by have := hh.2; simp [acN] at this; omega⟩
 have h3 : Ok64 [h.cap, h.timer, bi h.armed] := hh.drop
 have hrl := hr.len
 refine regi_row [some 46, some 47, some 48, none, some 50, some 51, some 52, some 53, some 54, some 55, some 56, some 57, none, none] [3, 12, 13]
   (fun d => if d = 46 then v else if d = 47 then .ptr 335008 s 4 0 0 else if d = 48 then ints h.regs else if d = 50 then .ptr 335008 s 4 0 1 else if d = 51 then iv h.cap else if d = 52 then .ptr 335008 s 4 0 2 else if d = 53 then iv h.timer else
     if d = 54 then .ptr 335008 s 4 0 3 else if d = 55 then .bool h.armed else if d = 56 then iv (bi h.armed) else .acc 335057 (st + 11) 1 [iv h.cap, iv h.timer, iv (bi h.armed)])
   (RW S v 0 46 59 (fun n => n ≠ 334006) 2 [(0, xs), (49, xs ++ encA (nsN h.regs)), (58, xs ++ encA (acN h)), (0, xs ++ encA (acN h))]) (by decide)
   ⟨fun _ => h0, fun _ _ _ => rfl, fun _ _ => rfl, Nat.le_refl _, fun s' ys q => by simp at q; obtain ⟨rfl, rfl⟩ := q; rw [h0]; exact hv⟩ ?_ ?_ ?_
 . rintro n S' j ai d hj hd hpre h1 h2 r
   have t8 := (r.t 8 (by decide) (.inl (by decide))).trans h8
   have b8 := (r.b 335008 (by decide)).trans hb
   match j, hj, hd, hpre, h1, h2 with
   | 0, hj, hd, hpre, h1, h2 =>
     simp at hj hd hpre; subst hj hd
     exact r.op 46 _ _ _ _ rfl (r.v (Nat.le_trans (h2 0 3 rfl (by decide)) (by decide))) (by decide) (by decide) (by decide) rfl rfl rfl
   | 1, hj, hd, hpre, h1, h2 =>
     simp at hj hd hpre; subst hj hd
     exact r.op 47 _ _ _ ⟨_, [], []⟩ (by simp [t8]) rfl (by decide) (by decide) (by decide) rfl rfl rfl
   | 2, hj, hd, hpre, h1, h2 =>
     simp at hj hd hpre; subst hj hd
     exact r.op 48 _ _ _ ⟨_, [], []⟩ (by simp [hpre, b8, ints]) rfl (by decide) (by decide) (by decide) rfl rfl rfl
   | 4, hj, hd, hpre, h1, h2 =>
     simp at hj hd hpre; subst hj hd
     exact r.op 50 _ _ _ ⟨_, [], []⟩ (by simp [t8]) rfl (by decide) (by decide) (by decide) rfl rfl rfl
   | 5, hj, hd, hpre, h1, h2 =>
     simp at hj hd hpre; subst hj hd
     exact r.op 51 _ _ _ ⟨_, [], []⟩ (by simp [hpre, b8]) rfl (by decide) (by decide) (by decide) rfl rfl rfl
   | 6, hj, hd, hpre, h1, h2 =>
     simp at hj hd hpre; subst hj hd
     exact r.op 52 _ _ _ ⟨_, [], []⟩ (by simp [t8]) rfl (by decide) (by decide) (by decide) rfl rfl rfl
   | 7, hj, hd, hpre, h1, h2 =>
     simp at hj hd hpre; subst hj hd
     exact r.op 53 _ _ _ ⟨_, [], []⟩ (by simp [hpre, b8]) rfl (by decide) (by decide) (by decide) rfl rfl rfl
   | 8, hj, hd, hpre, h1, h2 =>
     simp at hj hd hpre; subst hj hd
     exact r.op 54 _ _ _ ⟨_, [], []⟩ (by simp [t8]) rfl (by decide) (by decide) (by decide) rfl rfl rfl
   | 9, hj, hd, hpre, h1, h2 =>
     simp at hj hd hpre; subst hj hd
     exact r.op 55 _ _ _ ⟨_, [], []⟩ (by simp [hpre, b8]) rfl (by decide) (by decide) (by decide) rfl rfl rfl
   | 10, hj, hd, hpre, h1, h2 =>
     simp at hj hd hpre; subst hj hd
     exact r.pcall 56 _ _ _ _ (wflag_pc h.armed) (by simp [hpre]) (by decide) (by decide) (by decide) rfl
   | 11, hj, hd, hpre, h1, h2 =>
     simp at hj hd hpre; subst hj hd
     exact r.op 57 _ _ _ ⟨_, [], _⟩ (by simp [hpre]; exact rfl) rfl (by decide) (by decide) (by decide) rfl rfl rfl
   | 3, hj, hd, _, _, _ => simp at hd
   | 12, hj, hd, _, _, _ => simp at hd
   | 13, hj, hd, _, _, _ => simp at hd
   | j + 14, hj, _, _, _, _ => simp at hj
 . rintro n S' j ai hn hj hpre r
   match n, hn with
   | 0, hn =>
     simp at hn; subst hn
     simp at hj hpre; subst hj
     have a0 := r.a 0 xs rfl
     rw [r.v (by decide)] at a0
     refine stepV_call ?_
     simp [hpre]
     exact wputn_v h.regs hr _ _ (by omega) a0 fun S2 w b1 b2 b3 b4 => ⟨r.call 49 (by decide) (by decide) (by decide) (by decide) w b2 (fun n _ => by rw [b3]) b4 _ rfl b1, slot_put b2 rfl⟩
   | 1, hn =>
     simp at hn; subst hn
     simp at hj hpre; subst hj
     have a0 := r.a 49 _ rfl
     refine stepV_call ?_
     simp [hpre]
     refine wput_a [h.cap, h.timer, bi h.armed] h3 _ _ _ _ (by simp; omega) a0 fun S2 w b1 b2 b3 b4 => ⟨r.call 58 (by decide) (by decide) (by decide) (by decide) w b2 (fun n _ => by rw [b3]) b4 _ rfl ?_, slot_put b2 rfl⟩
     rw [acN, encA_append, <- List.append_assoc]
     exact b1
   | 2, hn =>
     simp at hn; subst hn
     simp at hj hpre; subst hj
     exact stepV_op _ rfl ⟨r.last (by decide) 58 _ rfl rfl, slot_app rfl⟩
   | n + 3, hn => simp at hn
 . intro S' r
   exact hk S' _ ⟨rfl, r.a 0 _ rfl, r.t, r.b, r.c⟩
theorem reg17 (h : Nt) (hh : Ok64 (ntN h)) (v : AV) (xs : List AV) (hx : xs.length <= 8000000) (s st : Nat) {S : St} {k : St -> Prop} {u : Dep k}
   (h0 : S.t 0 = v) (h10 : S.t 10 = .ptr 335010 s 3 0 0) (hb : S.blk 335010 = some ⟨s, 3, [h.av]⟩) (hv : AccB S v xs)
   (hk : ∀ S' w, RegTo S S' w (xs ++ encA (ntN h)) 0 73 83 (fun n => n ≠ 334006) -> k S') : regIG Tryz.prog wprog_p17 st wprog_r17 S k u := by
 have h2' : Ok64 [h.to, h.hd] := ⟨fun n hn => hh.1 n (by simp at hn; simp [ntN]; omega), by simp⟩
 have hr : Ok64 (nsN h.args) := hh.tail.tail
 have hrl := h2'.len
 refine regi_row [some 73, some 74, some 75, some 76, some 77, some 78, none, some 80, some 81, none, none] [6, 9, 10]
   (fun d => if d = 73 then v else if d = 74 then .ptr 335010 s 3 0 0 else if d = 75 then iv h.to else if d = 76 then .ptr 335010 s 3 0 1 else if d = 77 then iv h.hd else if d = 78 then .acc 335078 (st + 5) 1 [iv h.to, iv h.hd] else
     if d = 80 then .ptr 335010 s 3 0 2 else ints h.args)
   (RW S v 0 73 83 (fun n => n ≠ 334006) 2 [(0, xs), (79, xs ++ encA [h.to, h.hd]), (82, xs ++ encA (ntN h)), (0, xs ++ encA (ntN h))]) (by decide)
   ⟨fun _ => h0, fun _ _ _ => rfl, fun _ _ => rfl, Nat.le_refl _, fun s' ys q => by simp at q; obtain ⟨rfl, rfl⟩ := q; rw [h0]; exact hv⟩ ?_ ?_ ?_
 . rintro n S' j ai d hj hd hpre h1 h2 r
   have t8 := (r.t 10 (by decide) (.inl (by decide))).trans h10
   have b8 := (r.b 335010 (by decide)).trans hb
   match j, hj, hd, hpre, h1, h2 with
   | 0, hj, hd, hpre, h1, h2 =>
     simp at hj hd hpre; subst hj hd
     exact r.op 73 _ _ _ _ rfl (r.v (Nat.le_trans (h2 0 6 rfl (by decide)) (by decide))) (by decide) (by decide) (by decide) rfl rfl rfl
   | 1, hj, hd, hpre, h1, h2 =>
     simp at hj hd hpre; subst hj hd
     exact r.op 74 _ _ _ ⟨_, [], []⟩ (by simp [t8]) rfl (by decide) (by decide) (by decide) rfl rfl rfl
   | 2, hj, hd, hpre, h1, h2 =>
     simp at hj hd hpre; subst hj hd
     exact r.op 75 _ _ _ ⟨_, [], []⟩ (by simp [hpre, b8]) rfl (by decide) (by decide) (by decide) rfl rfl rfl
   | 3, hj, hd, hpre, h1, h2 =>
     simp at hj hd hpre; subst hj hd
     exact r.op 76 _ _ _ ⟨_, [], []⟩ (by simp [t8]) rfl (by decide) (by decide) (by decide) rfl rfl rfl
   | 4, hj, hd, hpre, h1, h2 =>
     simp at hj hd hpre; subst hj hd
     exact r.op 77 _ _ _ ⟨_, [], []⟩ (by simp [hpre, b8]) rfl (by decide) (by decide) (by decide) rfl rfl rfl
   | 5, hj, hd, hpre, h1, h2 =>
     simp at hj hd hpre; subst hj hd
     exact r.op 78 _ _ _ ⟨_, [], _⟩ (by simp [hpre]; exact rfl) rfl (by decide) (by decide) (by decide) rfl rfl rfl
   | 7, hj, hd, hpre, h1, h2 =>
     simp at hj hd hpre; subst hj hd
     exact r.op 80 _ _ _ ⟨_, [], []⟩ (by simp [t8]) rfl (by decide) (by decide) (by decide) rfl rfl rfl
   | 8, hj, hd, hpre, h1, h2 =>
     simp at hj hd hpre; subst hj hd
     exact r.op 81 _ _ _ ⟨_, [], []⟩ (by simp [hpre, b8, ints]) rfl (by decide) (by decide) (by decide) rfl rfl rfl
   | 6, hj, hd, _, _, _ => simp at hd
   | 9, hj, hd, _, _, _ => simp at hd
   | 10, hj, hd, _, _, _ => simp at hd
   | j + 11, hj, _, _, _, _ => simp at hj
 . rintro n S' j ai hn hj hpre r
   match n, hn with
   | 0, hn =>
     simp at hn; subst hn
     simp at hj hpre; subst hj
     have a0 := r.a 0 xs rfl
     rw [r.v (by decide)] at a0
     refine stepV_call ?_
     simp [hpre]
     exact wput_a [h.to, h.hd] h2' _ _ _ _ (by omega) a0 fun S2 w b1 b2 b3 b4 => ⟨r.call 79 (by decide) (by decide) (by decide) (by decide) w b2 (fun n _ => by rw [b3]) b4 _ rfl b1, slot_put b2 rfl⟩
   | 1, hn =>
     simp at hn; subst hn
     simp at hj hpre; subst hj
     have a0 := r.a 79 _ rfl
     refine stepV_call ?_
     simp [hpre]
     refine wputn_v h.args hr _ _ (by simp; omega) a0 fun S2 w b1 b2 b3 b4 => ⟨r.call 82 (by decide) (by decide) (by decide) (by decide) w b2 (fun n _ => by rw [b3]) b4 _ rfl ?_, slot_put b2 rfl⟩
     rw [show ntN h = [h.to, h.hd] ++ nsN h.args from rfl, encA_append, <- List.append_assoc]
     exact b1
   | 2, hn =>
     simp at hn; subst hn
     simp at hj hpre; subst hj
     exact stepV_op _ rfl ⟨r.last (by decide) 82 _ rfl rfl, slot_app rfl⟩
   | n + 3, hn => simp at hn
 . intro S' r
   exact hk S' _ ⟨rfl, r.a 0 _ rfl, r.t, r.b, r.c⟩
def prN (p : Prg) : List Int := (p.hs.length : Int) :: p.hs.flatMap hdN ++ ((p.as.length : Int) :: p.as.flatMap acN ++ ((p.boot.length : Int) :: p.boot.flatMap ntN ++ [p.fuel]))
def OutP (n : Nat) : Prop := n < 334000 \/ 336000 <= n
theorem ok_of {α : Type} {f : α -> List Int} {l : List α} (h : Ok64 (l.flatMap f)) {x : α} (hx : x ∈ l) : Ok64 (f x) := by
 refine ⟨fun n hn => h.1 n (List.mem_flatMap.2 ⟨x, hx, hn⟩), Nat.le_trans ?_ h.2⟩
 obtain ⟨a, b, rfl⟩ := List.append_of_mem hx
 simp only [List.flatMap_append, List.flatMap_cons, List.length_append]
 omega
theorem ok_take {α : Type} {f : α -> List Int} {l : List α} (h : Ok64 (l.flatMap f)) (i : Nat) : Ok64 ((l.take i).flatMap f) := by
 refine ⟨fun n hn => ?_, Nat.le_trans ?_ h.2⟩
 . obtain ⟨x, h1, h2⟩ := List.mem_flatMap.1 hn
   exact h.1 n (List.mem_flatMap.2 ⟨x, List.mem_of_mem_take h1, h2⟩)
 . conv => rhs; rw [<- List.take_append_drop i l]
   rw [List.flatMap_append, List.length_append]
   omega
theorem enc_take {α : Type} (f : α -> List Int) (l : List α) (i : Nat) (hi : i < l.length) (ys : List AV) : ys ++ encA ((l.take (i + 1)).flatMap f) = (ys ++ encA ((l.take i).flatMap f)) ++ encA (f l[i]) := by
 rw [List.take_succ_eq_append_getElem hi, List.flatMap_append, encA_append, List.append_assoc]
 simp
theorem wp_l0 (l : List Hnd) (h : Ok64 (l.flatMap hdN)) (hlen : l.length <= 60000) (ys : List AV) (hys : ys.length <= 7000000) (c3 : AV) (s3 : Nat) {S : St} {κ : Ex -> St -> Prop} {u : Dep κ}
   (g20 : S.t 20 = iv 0) (g18 : S.t 18 = .lst 2 (l.map Hnd.av)) (g19 : S.t 19 = iv l.length) (g3 : S.t 3 = .ptr 335003 s3 4 0 0) (b3 : S.blk 335003 = some ⟨s3, 4, [c3]⟩) (ga : AccB S (S.t 0) ys)
   (hk : ∀ S', S'.t 3 = .ptr 335003 s3 4 0 0 -> S'.blk 335003 = some ⟨s3, 4, [c3]⟩ -> (∀ n, OutP n -> S'.blk n = S.blk n) -> S.clk <= S'.clk -> AccB S' (S'.t 0) (ys ++ encA (l.flatMap hdN)) -> κ (.exit 0) S') :
   LoopG Tryz.prog wprog_l0 κ S u := by
 refine loopN (fun i S' => S'.t 20 = iv i /\ S'.t 18 = .lst 2 (l.map Hnd.av) /\ S'.t 19 = iv l.length /\ S'.t 3 = .ptr 335003 s3 4 0 0 /\ S'.blk 335003 = some ⟨s3, 4, [c3]⟩ /\ (∀ n, OutP n -> S'.blk n = S.blk n) /\ S.clk <= S'.clk /\ AccB S' (S'.t 0) (ys ++ encA ((l.take i).flatMap hdN))) l.length
   ⟨g20, g18, g19, g3, b3, fun _ _ => rfl, Nat.le_refl _, by simpa using ga⟩ ?_
 rintro i S' hi ⟨g20, g18, g19, g3, b3, gb, gc, ga⟩
 by_cases hlt : i < l.length
 . have ws := wrap_succ i _ hlt (by omega)
   have htl := (ok_take h i).len
   rw [enc_take hdN l i hlt]
   simp [wprog_l0, g20, g18, g19, g3, b3, hlt]
   refine reg5 l[i] (ok_of h (List.getElem_mem hlt)) (S'.t 0) _ (by rw [List.length_append]; omega) _ _ (by simp) (by simp; rfl) (by simp) (ga.at fun _ _ => rfl) (fun S2 w r => ?_)
   have t20 := r.t 20 (by decide) (.inl (by decide))
   have t18 := r.t 18 (by decide) (.inl (by decide))
   have t19 := r.t 19 (by decide) (.inl (by decide))
   have t3 := r.t 3 (by decide) (.inl (by decide))
   have b3' := r.b 335003 (by decide)
   have rc := r.c
   simp [g20, g18, g19, g3, b3] at t20 t18 t19 t3 b3'
   simp [t20, t18, t19, t3, b3', r.v, ws]
   refine ⟨fun n hn => ?_, by simp only [] at rc; omega, by rw [<- List.append_assoc]; exact r.a.at fun _ _ => rfl⟩
   rw [r.b n (show n ≠ 334006 by unfold OutP at hn; omega)]
   simp [show n ≠ 335006 by unfold OutP at hn; omega, gb n hn]
 . have e : l.take i = l := List.take_of_length_le (by omega)
   rw [e] at ga
   simp [wprog_l0, g20, g18, g19, g3, b3, hlt]
   exact hk _ (by simp [g3]) (by simp [b3]) gb (by first | omega | (simp only []; omega)) (ga.at fun _ _ => rfl)
theorem wp_l1 (l : List Actr) (h : Ok64 (l.flatMap acN)) (hlen : l.length <= 60000) (ys : List AV) (hys : ys.length <= 7000000) (c3 : AV) (s3 : Nat) {S : St} {κ : Ex -> St -> Prop} {u : Dep κ}
   (g20 : S.t 42 = iv 0) (g18 : S.t 40 = .lst 4 (l.map Actr.av)) (g19 : S.t 41 = iv l.length) (g3 : S.t 3 = .ptr 335003 s3 4 0 0) (b3 : S.blk 335003 = some ⟨s3, 4, [c3]⟩) (ga : AccB S (S.t 0) ys)
   (hk : ∀ S', S'.t 3 = .ptr 335003 s3 4 0 0 -> S'.blk 335003 = some ⟨s3, 4, [c3]⟩ -> (∀ n, OutP n -> S'.blk n = S.blk n) -> S.clk <= S'.clk -> AccB S' (S'.t 0) (ys ++ encA (l.flatMap acN)) -> κ (.exit 2) S') :
   LoopG Tryz.prog wprog_l1 κ S u := by
 refine loopN (fun i S' => S'.t 42 = iv i /\ S'.t 40 = .lst 4 (l.map Actr.av) /\ S'.t 41 = iv l.length /\ S'.t 3 = .ptr 335003 s3 4 0 0 /\ S'.blk 335003 = some ⟨s3, 4, [c3]⟩ /\ (∀ n, OutP n -> S'.blk n = S.blk n) /\ S.clk <= S'.clk /\ AccB S' (S'.t 0) (ys ++ encA ((l.take i).flatMap acN))) l.length
   ⟨g20, g18, g19, g3, b3, fun _ _ => rfl, Nat.le_refl _, by simpa using ga⟩ ?_
 rintro i S' hi ⟨g20, g18, g19, g3, b3, gb, gc, ga⟩
 by_cases hlt : i < l.length
 . have ws := wrap_succ i _ hlt (by omega)
   have htl := (ok_take h i).len
   rw [enc_take acN l i hlt]
   simp [wprog_l1, g20, g18, g19, g3, b3, hlt]
   refine reg11 l[i] (ok_of h (List.getElem_mem hlt)) (S'.t 0) _ (by rw [List.length_append]; omega) _ _ (by simp) (by simp; rfl) (by simp) (ga.at fun _ _ => rfl) (fun S2 w r => ?_)
   have t20 := r.t 42 (by decide) (.inl (by decide))
   have t18 := r.t 40 (by decide) (.inl (by decide))
   have t19 := r.t 41 (by decide) (.inl (by decide))
   have t3 := r.t 3 (by decide) (.inl (by decide))
   have b3' := r.b 335003 (by decide)
   have rc := r.c
   simp [g20, g18, g19, g3, b3] at t20 t18 t19 t3 b3'
   simp [t20, t18, t19, t3, b3', r.v, ws]
   refine ⟨fun n hn => ?_, by simp only [] at rc; omega, by rw [<- List.append_assoc]; exact r.a.at fun _ _ => rfl⟩
   rw [r.b n (show n ≠ 334006 by unfold OutP at hn; omega)]
   simp [show n ≠ 335008 by unfold OutP at hn; omega, gb n hn]
 . have e : l.take i = l := List.take_of_length_le (by omega)
   rw [e] at ga
   simp [wprog_l1, g20, g18, g19, g3, b3, hlt]
   exact hk _ (by simp [g3]) (by simp [b3]) gb (by first | omega | (simp only []; omega)) (ga.at fun _ _ => rfl)
theorem wp_l2 (l : List Nt) (h : Ok64 (l.flatMap ntN)) (hlen : l.length <= 60000) (ys : List AV) (hys : ys.length <= 7000000) (c3 : AV) (s3 : Nat) {S : St} {κ : Ex -> St -> Prop} {u : Dep κ}
   (g20 : S.t 69 = iv 0) (g18 : S.t 67 = .lst 3 (l.map Nt.av)) (g19 : S.t 68 = iv l.length) (g3 : S.t 3 = .ptr 335003 s3 4 0 0) (b3 : S.blk 335003 = some ⟨s3, 4, [c3]⟩) (ga : AccB S (S.t 0) ys)
   (hk : ∀ S', S'.t 3 = .ptr 335003 s3 4 0 0 -> S'.blk 335003 = some ⟨s3, 4, [c3]⟩ -> (∀ n, OutP n -> S'.blk n = S.blk n) -> S.clk <= S'.clk -> AccB S' (S'.t 0) (ys ++ encA (l.flatMap ntN)) -> κ (.exit 4) S') :
   LoopG Tryz.prog wprog_l2 κ S u := by
 refine loopN (fun i S' => S'.t 69 = iv i /\ S'.t 67 = .lst 3 (l.map Nt.av) /\ S'.t 68 = iv l.length /\ S'.t 3 = .ptr 335003 s3 4 0 0 /\ S'.blk 335003 = some ⟨s3, 4, [c3]⟩ /\ (∀ n, OutP n -> S'.blk n = S.blk n) /\ S.clk <= S'.clk /\ AccB S' (S'.t 0) (ys ++ encA ((l.take i).flatMap ntN))) l.length
   ⟨g20, g18, g19, g3, b3, fun _ _ => rfl, Nat.le_refl _, by simpa using ga⟩ ?_
 rintro i S' hi ⟨g20, g18, g19, g3, b3, gb, gc, ga⟩
 by_cases hlt : i < l.length
 . have ws := wrap_succ i _ hlt (by omega)
   have htl := (ok_take h i).len
   rw [enc_take ntN l i hlt]
   simp [wprog_l2, g20, g18, g19, g3, b3, hlt]
   refine reg17 l[i] (ok_of h (List.getElem_mem hlt)) (S'.t 0) _ (by rw [List.length_append]; omega) _ _ (by simp) (by simp; rfl) (by simp) (ga.at fun _ _ => rfl) (fun S2 w r => ?_)
   have t20 := r.t 69 (by decide) (.inl (by decide))
   have t18 := r.t 67 (by decide) (.inl (by decide))
   have t19 := r.t 68 (by decide) (.inl (by decide))
   have t3 := r.t 3 (by decide) (.inl (by decide))
   have b3' := r.b 335003 (by decide)
   have rc := r.c
   simp [g20, g18, g19, g3, b3] at t20 t18 t19 t3 b3'
   simp [t20, t18, t19, t3, b3', r.v, ws]
   refine ⟨fun n hn => ?_, by simp only [] at rc; omega, by rw [<- List.append_assoc]; exact r.a.at fun _ _ => rfl⟩
   rw [r.b n (show n ≠ 334006 by unfold OutP at hn; omega)]
   simp [show n ≠ 335010 by unfold OutP at hn; omega, gb n hn]
 . have e : l.take i = l := List.take_of_length_le (by omega)
   rw [e] at ga
   simp [wprog_l2, g20, g18, g19, g3, b3, hlt]
   exact hk _ (by simp [g3]) (by simp [b3]) gb (by first | omega | (simp only []; omega)) (ga.at fun _ _ => rfl)
theorem len_fm {α : Type} (f : α -> List Int) (hf : ∀ x, 1 <= (f x).length) : ∀ l : List α, l.length <= (l.flatMap f).length
 | [] => by simp
 | x :: l => by
   have := len_fm f hf l
   have := hf x
   simp only [List.length_cons, List.flatMap_cons, List.length_append]
   omega
theorem wputp_v (p : Prg) (h : Ok64 (prN p)) (v : AV) (xs : List AV) (hx : xs.length <= 1000000) {S : St} {k : AV -> St -> Prop} {u : Dep k} (hv : AccB S v xs)
   (hk : ∀ S' v', AccB S' v' (xs ++ encA (prN p)) -> S'.t = S.t -> (∀ n, OutP n -> S'.blk n = S.blk n) -> S.clk <= S'.clk -> k v' S') : CallG Tryz.prog (.fn 33 []) [v, p.av] S k u := by
 have o1 : Ok64 [(p.hs.length : Int)] := ⟨fun n hn => h.1 n (by simp at hn; simp [prN, hn]), by simp⟩
 have o2 : Ok64 [(p.as.length : Int)] := ⟨fun n hn => h.1 n (by simp at hn; simp [prN, hn]), by simp⟩
 have o3 : Ok64 [(p.boot.length : Int)] := ⟨fun n hn => h.1 n (by simp at hn; simp [prN, hn]), by simp⟩
 have o4 : Ok64 [p.fuel] := ⟨fun n hn => h.1 n (by simp at hn; simp [prN, hn]), by simp⟩
 have hl := h.2
 simp only [prN, List.length_append, List.length_cons, List.length_nil] at hl
 have q1 : Ok64 (p.hs.flatMap hdN) := ⟨fun n hn => h.1 n (by simp only [prN, List.mem_append, List.mem_cons]; exact .inl (.inr hn)), by omega⟩
 have q2 : Ok64 (p.as.flatMap acN) := ⟨fun n hn => h.1 n (by simp only [prN, List.mem_append, List.mem_cons]; exact .inr (.inl (.inr hn))), by omega⟩
 have q3 : Ok64 (p.boot.flatMap ntN) := ⟨fun n hn => h.1 n (by simp only [prN, List.mem_append, List.mem_cons]; exact .inr (.inr (.inl (.inr hn)))), by omega⟩
 have n1 := len_fm hdN (fun x => by simp [hdN]) p.hs
 have n2 := len_fm acN (fun x => by simp [acN, nsN]) p.as
 have n3 := len_fm ntN (fun x => by simp [ntN]) p.boot
 have l1 := o1.len
 have l2 := o2.len
 have l3 := o3.len
 have l4 := q1.len
 have l5 := q2.len
 have l6 := q3.len
 refine callV wprog_get (by simp) (by simp) ?_
 unfold wprog_c
 simp
 refine wput_a [(p.hs.length : Int)] o1 _ _ v xs (by omega) (hv.at fun n hn => by simp; intro; omega) (fun S1 v1 a1 a2 a3 a4 => ?_)
 simp [a2, a3]
 generalize hX1 : xs ++ encA [(p.hs.length : Int)] = X1 at *
 have x1 : X1.length <= 1600000 := by rw [<- hX1, List.length_append]; omega
 refine wp_l0 p.hs q1 (by omega) X1 (by omega) p.av _ rfl (by simp) (by simp) (by simp; rfl) (by simp [a3]) (by simp; exact a1.at fun _ _ => rfl) (fun S2 b3 bb bf bc ba => ?_)
 generalize hX2 : X1 ++ encA (p.hs.flatMap hdN) = X2 at *
 have x2 : X2.length <= 2200000 := by rw [<- hX2, List.length_append]; omega
 simp [b3, bb]
 refine wput_a [(p.as.length : Int)] o2 _ _ _ X2 (by omega) (ba.at fun n hn => by simp; intro; omega) (fun S3 v3 c1 c2 c3 c4 => ?_)
 generalize hX3 : X2 ++ encA [(p.as.length : Int)] = X3 at *
 have x3 : X3.length <= 2800000 := by rw [<- hX3, List.length_append]; omega
 simp [c2, c3, b3, bb]
 refine wp_l1 p.as q2 (by omega) X3 (by omega) p.av _ rfl (by simp) (by simp) (by simp [b3]; rfl) (by simp [c3, bb]) (by simp; exact c1.at fun _ _ => rfl) (fun S4 d3 db df dc da => ?_)
 generalize hX4 : X3 ++ encA (p.as.flatMap acN) = X4 at *
 have x4 : X4.length <= 3400000 := by rw [<- hX4, List.length_append]; omega
 simp [d3, db]
 refine wput_a [(p.boot.length : Int)] o3 _ _ _ X4 (by omega) (da.at fun n hn => by simp; intro; omega) (fun S5 v5 e1 e2 e3 e4 => ?_)
 generalize hX5 : X4 ++ encA [(p.boot.length : Int)] = X5 at *
 have x5 : X5.length <= 4000000 := by rw [<- hX5, List.length_append]; omega
 simp [e2, e3, d3, db]
 refine wp_l2 p.boot q3 (by omega) X5 (by omega) p.av _ rfl (by simp) (by simp) (by simp [d3]; rfl) (by simp [e3, db]) (by simp; exact e1.at fun _ _ => rfl) (fun S6 f3 fb ff fc fa => ?_)
 generalize hX6 : X5 ++ encA (p.boot.flatMap ntN) = X6 at *
 have x6 : X6.length <= 4600000 := by rw [<- hX6, List.length_append]; omega
 simp [f3, fb]
 refine wput_a [p.fuel] o4 _ _ _ X6 (by omega) (fa.at fun n hn => by simp; intro; omega) (fun S7 v7 g1 g2 g3 g4 => ?_)
 simp [g2, f3]
 have hX : xs ++ encA (prN p) = X6 ++ encA [p.fuel] := by
   rw [<- hX6, <- hX5, <- hX4, <- hX3, <- hX2, <- hX1]
   unfold prN
   rw [encA_append, encA_append, encA_append, encA_cons (p.hs.length : Int) (p.hs.flatMap hdN), encA_cons (p.as.length : Int) (p.as.flatMap acN), encA_cons (p.boot.length : Int) (p.boot.flatMap ntN)]
   simp only [List.append_assoc]
 refine hk _ _ (hX ▸ g1.at fun _ _ => rfl) rfl (fun n hn => ?_) ?_
 . have n3 : n ≠ 335003 := by unfold OutP at hn; omega
   simp [g3, ff n hn, e3, df n hn, c3, bf n hn, a3, n3]
 . simp only [] at a4 bc c4 dc e4 fc g4 ⊢
   omega
def lit4 (a b c d : Int) : List AV := [.int .u8 a, .int .u8 b, .int .u8 c, .int .u8 d]
theorem reg1e (c : Cfg) (h : Ok64 (prN c.p)) (hl : Ok64 [(c.l.length : Int)]) (s st : Nat) {S : St} {k : St -> Prop} {u : Dep k}
   (h1 : S.t 1 = .ptr 329991 s 11 0 0) (h2 : S.t 2 = .nils) (hb : S.blk 329991 = some ⟨s, 11, [c.av]⟩)
   (hk : ∀ S' w, RegTo S S' w (lit4 71 65 86 49 ++ encA (prN c.p) ++ encA [(c.l.length : Int)]) 4 7 17 OutP -> k S') : regIG Tryz.prog wenc_p1 st wenc_r1 S k u := by
 have hpl := h.len
 refine regi_row [none, none, some 9, some 10, none, some 12, some 13, some 14, some 15, none, none] [0, 1, 4, 9, 10]
   (fun d => if d = 9 then .ptr 329991 s 11 0 0 else if d = 10 then c.p.av else if d = 12 then .ptr 329991 s 11 0 4 else if d = 13 then watchesAv c.l else if d = 14 then iv c.l.length else .acc 330005 (st + 8) 1 [iv c.l.length])
   (RW S (S.t 4) 4 7 17 OutP 4 [(2, []), (7, lit4 71 65 86 49), (8, lit4 71 65 86 49), (11, lit4 71 65 86 49 ++ encA (prN c.p)), (16, lit4 71 65 86 49 ++ encA (prN c.p) ++ encA [(c.l.length : Int)]), (4, lit4 71 65 86 49 ++ encA (prN c.p) ++ encA [(c.l.length : Int)])]) (by decide)
   ⟨fun _ => rfl, fun _ _ _ => rfl, fun _ _ => rfl, Nat.le_refl _, fun s' ys q => by simp at q; obtain ⟨rfl, rfl⟩ := q; exact .inl ⟨h2, rfl⟩⟩ ?_ ?_ ?_
 . rintro n S' j ai d hj hd hpre h1' h2' r
   have t1 := (r.t 1 (by decide) (.inl (by decide))).trans h1
   have b1 := (r.b 329991 (.inl (by decide))).trans hb
   match j, hj, hd, hpre, h1', h2' with
   | 2, hj, hd, hpre, _, _ =>
     simp at hj hd hpre; subst hj hd
     exact r.op 9 _ _ _ ⟨_, [], []⟩ (by simp [t1]) rfl (by decide) (by decide) (by decide) rfl rfl rfl
   | 3, hj, hd, hpre, _, _ =>
     simp at hj hd hpre; subst hj hd
     exact r.op 10 _ _ _ ⟨_, [], []⟩ (by simp [hpre, b1, Cfg.av]) rfl (by decide) (by decide) (by decide) rfl rfl rfl
   | 5, hj, hd, hpre, _, _ =>
     simp at hj hd hpre; subst hj hd
     exact r.op 12 _ _ _ ⟨_, [], []⟩ (by simp [t1]) rfl (by decide) (by decide) (by decide) rfl rfl rfl
   | 6, hj, hd, hpre, _, _ =>
     simp at hj hd hpre; subst hj hd
     exact r.op 13 _ _ _ ⟨_, [], []⟩ (by simp [hpre, b1, Cfg.av]; rfl) rfl (by decide) (by decide) (by decide) rfl rfl rfl
   | 7, hj, hd, hpre, _, _ =>
     simp at hj hd hpre; subst hj hd
     exact r.op 14 _ _ _ ⟨_, [], []⟩ (by simp [hpre, watchesAv]) rfl (by decide) (by decide) (by decide) rfl rfl rfl
   | 8, hj, hd, hpre, _, _ =>
     simp at hj hd hpre; subst hj hd
     exact r.op 15 _ _ _ ⟨_, [], _⟩ (by simp [hpre]; exact rfl) rfl (by decide) (by decide) (by decide) rfl rfl rfl
   | 0, hj, hd, _, _, _ => simp at hd
   | 1, hj, hd, _, _, _ => simp at hd
   | 4, hj, hd, _, _, _ => simp at hd
   | 9, hj, hd, _, _, _ => simp at hd
   | 10, hj, hd, _, _, _ => simp at hd
   | j + 11, hj, _, _, _, _ => simp at hj
 . rintro n S' j ai hn hj hpre r
   match n, hn with
   | 0, hn =>
     simp at hn; subst hn
     simp at hj hpre; subst hj
     refine stepV_op ⟨.acc 329997 (st + 0) 1 (lit4 71 65 86 49), [], [(329997, some ⟨st + 0, 1, 5⟩)]⟩ (by simp [lit4]) ⟨?_, slot_app rfl⟩
     exact r.call (S'' := ⟨S'.t, S'.blk, upd S'.tok 329997 (some ⟨st + 0, 1, 5⟩), S'.clk⟩) 7 (by decide) (by decide) (by decide) (by decide) _ rfl (fun _ _ => rfl) (Nat.le_refl _) _ rfl (.inr ⟨_, _, by decide, rfl, by simp⟩)
   | 1, hn =>
     simp at hn; subst hn
     simp at hj hpre; subst hj
     have a0 := r.a 7 _ rfl
     rcases a0 with ⟨_, q⟩ | ⟨nm, s', q0, q1, q2⟩
     . cases q
     refine stepV_op ⟨S'.t 7, [], []⟩ (by rw [ex_mark]; simp [q1, q2, lit4]) ⟨?_, slot_app rfl⟩
     exact r.call (S'' := S') 8 (by decide) (by decide) (by decide) (by decide) _ rfl (fun _ _ => rfl) (Nat.le_refl _) _ rfl (.inr ⟨nm, s', q0, q1, q2⟩)
   | 2, hn =>
     simp at hn; subst hn
     simp at hj hpre; subst hj
     have a0 := r.a 8 _ rfl
     refine stepV_call ?_
     simp [hpre]
     exact wputp_v c.p h _ _ (by simp [lit4]) a0 fun S2 w b1 b2 b3 b4 => ⟨r.call 11 (by decide) (by decide) (by decide) (by decide) w b2 b3 b4 _ rfl b1, slot_put b2 rfl⟩
   | 3, hn =>
     simp at hn; subst hn
     simp at hj hpre; subst hj
     have a0 := r.a 11 _ rfl
     refine stepV_call ?_
     simp [hpre]
     exact wput_a [(c.l.length : Int)] hl _ _ _ _ (by simp [lit4]; omega) a0 fun S2 w b1 b2 b3 b4 => ⟨r.call 16 (by decide) (by decide) (by decide) (by decide) w b2 (fun n _ => by rw [b3]) b4 _ rfl b1, slot_put b2 rfl⟩
   | 4, hn =>
     simp at hn; subst hn
     simp at hj hpre; subst hj
     exact stepV_op _ rfl ⟨r.last (by decide) 16 _ rfl rfl, slot_app rfl⟩
   | n + 5, hn => simp at hn
 . intro S' r
   exact hk S' _ ⟨rfl, r.a 4 _ rfl, r.t, r.b, r.c⟩
def limN (c : Cfg) : List Int := [c.b.drop, c.b.dup, c.b.time, c.b.crash, c.depth, c.most]
def tkN (c : Cfg) : List Int := prN c.p ++ ((c.l.length : Int) :: c.l.flatMap codeN ++ limN c)
theorem wenc_pc (c : Cfg) (h : Ok64 (tkN c)) (hlen : (tkN c).length <= 6000) : PC Tryz.prog 21 [c.av] (.tup [.lst 1 (lit4 71 65 86 49 ++ encA (tkN c)), iv 0]) := by
 have hl := hlen
 simp only [tkN, List.length_append, List.length_cons] at hl
 have o1 : Ok64 (prN c.p) := ⟨fun n hn => h.1 n (List.mem_append.2 (.inl hn)), by omega⟩
 have o2 : Ok64 [(c.l.length : Int)] := ⟨fun n hn => h.1 n (by simp at hn; simp [tkN, hn]), by simp⟩
 have o3 : Ok64 (c.l.flatMap codeN) := ⟨fun n hn => h.1 n (by simp only [tkN, List.mem_append, List.mem_cons]; exact .inr (.inl (.inr hn))), by omega⟩
 have o4 : Ok64 (limN c) := ⟨fun n hn => h.1 n (by simp only [tkN, List.mem_append, List.mem_cons]; exact .inr (.inr hn)), by simp [limN]⟩
 have n3 := len_fm codeN (fun x => by simp [codeN]) c.l
 have l1 := o1.len
 have l2 := o2.len
 have l3 := o3.len
 have hT := encA_le (tkN c) h.1
 refine pc_of_get wenc_get (by simp) _ (by simp) _ ?_
 unfold wenc_c
 simp [Cfg.av, watchesAv]
 refine reg1e c o1 o2 0 _ (by simp) (by simp) (by simp; rfl) (fun S1 w r => ?_)
 have t1 := r.t 1 (by decide) (.inl (by decide))
 have b1 := r.b 329991 (.inl (by decide))
 simp at t1 b1
 generalize hX1 : lit4 71 65 86 49 ++ encA (prN c.p) ++ encA [(c.l.length : Int)] = X1 at *
 have x1 : X1.length <= 1200004 := by rw [<- hX1, List.length_append, List.length_append]; simp only [lit4, List.length_cons, List.length_nil]; omega
 simp [t1, b1, Cfg.av, watchesAv]
 refine loopN (fun i S' => S'.t 20 = iv i /\ S'.t 18 = .lst 1 (c.l.map fun x => .lst 2 (x.map Ins.av)) /\ S'.t 19 = iv c.l.length /\ S'.t 1 = S1.t 1 /\ S'.blk 329991 = S1.blk 329991 /\ AccB S' (S'.t 4) (X1 ++ encA ((c.l.take i).flatMap codeN))) c.l.length ⟨rfl, rfl, by simp, by simp [t1], by simp [b1], ?_⟩ ?_
 . simp [r.v]
   exact r.a.at fun _ _ => rfl
 rintro i S' hi ⟨g20, g18, g19, g1, gb, ga⟩
 rw [t1] at g1
 rw [b1] at gb
 by_cases hlt : i < c.l.length
 . have ws := wrap_succ i _ hlt (by omega)
   have htl := (ok_take o3 i).len
   rw [enc_take codeN c.l i hlt]
   simp [wenc_l0, g20, g18, g19, g1, gb, t1, b1, hlt]
   refine wputc_v c.l[i] (ok_of o3 (List.getElem_mem hlt)) _ (X1 ++ encA ((c.l.take i).flatMap codeN)) (by rw [List.length_append]; omega) (ga.at fun _ _ => rfl) (fun S2 v2 b1' b2 b3 b4 => ?_)
   have bb := b3 329991 (by decide)
   simp [gb] at bb
   simp [b2, g20, g18, g19, g1, bb, ws]
   rw [<- List.append_assoc]
   exact b1'.at fun _ _ => rfl
 . have e : c.l.take i = c.l := List.take_of_length_le (by omega)
   rw [e] at ga
   generalize hX2 : X1 ++ encA (c.l.flatMap codeN) = X2 at *
   have x2 : X2.length <= 1900004 := by rw [<- hX2, List.length_append]; omega
   have hX : lit4 71 65 86 49 ++ encA (tkN c) = X2 ++ encA (limN c) := by
     rw [<- hX2, <- hX1, tkN, encA_append, encA_append, encA_cons (c.l.length : Int) (c.l.flatMap codeN)]
     simp only [List.append_assoc]
   have hL : (X2 ++ encA (limN c)).length <= 65536 := by
     rw [<- hX, List.length_append]; simp only [lit4, List.length_cons, List.length_nil]; omega
   rw [hX]
   simp [wenc_l0, g20, g18, g19, g1, gb, hlt]
   refine wput_a (limN c) o4 _ _ _ X2 (by omega) (ga.at fun n hn => by simp; intro; omega) (fun S3 v3 c1 c2 c3 c4 => ?_)
   generalize X2 ++ encA (limN c) = X3 at *
   rcases c1 with ⟨rfl, rfl⟩ | ⟨nm, s', q0, rfl, q2⟩
   . simp [c2]
   . simp [c2, show ¬ (65536 : Int) < (X3.length : Int) by omega]
end Go.Gv

namespace Go.Gv
open Go.Proofs
def rnum_c : AC := (.seq (.reg [oI 2 0]) (.seq (.reg [oM 7 0, oH 8 7, oF 9 0 8, oL 10 9, oC 11 (.c (.fn 67 [])) [(.t 10)], oM 6 11, oE 12 6 0, oE 13 6 1, oE 14 6 2, oM 3 12, oM 4 13, oM 5 14]) (.seq (.seq (.reg [oM 15 0, oM 16 0, oH 17 16, oF 18 1 17, oL 19 18, oM 20 19, gM 21 20 false 5, oG 22 20 false (.ibin .neq (.t 21) (.c (.int .i64 0))), oA 23 (.pick (.t 20) (.c (.bool true)) (.t 22)), oH 24 15, oF 25 1 24, oN (.store 1 (.t 25) (.t 23))]) (.seq (.reg [oM 26 0, oH 27 26, oF 28 1 27, oL 29 28]) (.cond (.t 29) (.seq (.reg [oI 2 0]) .ret) .skip))) (.seq (.reg [oM 30 0, oM 31 0, oH 32 31, oF 33 0 32, oL 34 33, oM 35 4, oA 36 (.slice (some 1) (.t 34) (some (.t 35)) none), oH 37 30, oF 38 0 37, oN (.store 1 (.t 38) (.t 36))]) (.seq (.reg [oM 39 3, oM 2 39]) .ret)))))
set_option maxRecDepth 100000 in
theorem rnum_get : getF Tryz.prog 36 340000 [] = some ("(*gavotte/wire.Reader).Num", 40, rnum_c, [(.tmp 2)]) := by kernel_rfl
def rcount_c : AC := (.seq (.reg [oI 2 0]) (.seq (.reg [oM 4 0, oC 5 (.c (.fn 36 [])) [(.t 4)], oM 3 5]) (.seq (.seq (.reg [oM 6 0, oM 7 0, oH 8 7, oF 9 1 8, oL 10 9, oM 11 10, gM 12 11 false 3, oG 13 11 false (.ibin .lss (.t 12) (.c (.int .i64 0))), oA 14 (.pick (.t 11) (.c (.bool true)) (.t 13)), oM 15 14, gM 16 15 false 3, gM 17 15 false 0, oG 18 15 false (.nilck (.t 17)), gF 19 15 false 0 18, gL 20 15 false 19, oG 21 15 false (.len (.t 20)), oG 22 15 false (.ibin .gtr (.t 16) (.t 21)), oA 23 (.pick (.t 15) (.c (.bool true)) (.t 22)), oH 24 6, oF 25 1 24, oN (.store 1 (.t 25) (.t 23))]) (.seq (.reg [oM 26 0, oH 27 26, oF 28 1 27, oL 29 28]) (.cond (.t 29) (.seq (.reg [oI 2 0]) .ret) .skip))) (.seq (.reg [oM 30 3, oM 2 30]) .ret))))
set_option maxRecDepth 100000 in
theorem rcount_get : getF Tryz.prog 37 341000 [] = some ("(*gavotte/wire.Reader).Count", 31, rcount_c, [(.tmp 2)]) := by kernel_rfl
def rgood_c : AC := (.seq (.reg [oA 2 (.mv (.c (.bool false)))]) (.seq (.reg [oM 3 0, oH 4 3, oF 5 1 4, oL 6 5, oA 7 (.not (.t 6)), oM 8 7, gM 9 8 true 0, oG 10 8 true (.nilck (.t 9)), gF 11 8 true 0 10, gL 12 8 true 11, oG 13 8 true (.len (.t 12)), oG 14 8 true (.ibin .eql (.t 13) (.c (.int .i64 0))), oA 15 (.pick (.t 8) (.t 14) (.c (.bool false))), oM 2 15]) .ret))
set_option maxRecDepth 100000 in
theorem rgood_get : getF Tryz.prog 39 342000 [] = some ("(*gavotte/wire.Reader).Good", 16, rgood_c, [(.tmp 2)]) := by kernel_rfl
def rflag_c : AC := (.seq (.reg [oA 2 (.mv (.c (.bool false)))]) (.seq (.reg [oM 4 0, oC 5 (.c (.fn 36 [])) [(.t 4)], oM 3 5]) (.seq (.reg [oM 6 0, oM 7 0, oH 8 7, oF 9 1 8, oL 10 9, oM 11 10, gM 12 11 false 3, oG 13 11 false (.ibin .neq (.t 12) (.c (.int .i64 0))), gM 14 11 false 13, gM 15 14 true 3, oG 16 14 true (.ibin .neq (.t 15) (.c (.int .i64 1))), oG 17 11 false (.pick (.t 14) (.t 16) (.c (.bool false))), oA 18 (.pick (.t 11) (.c (.bool true)) (.t 17)), oH 19 6, oF 20 1 19, oN (.store 1 (.t 20) (.t 18))]) (.seq (.reg [oM 21 3, oZ 22 .eql 21 1, oM 2 22]) .ret))))
set_option maxRecDepth 100000 in
theorem rflag_get : getF Tryz.prog 103 343000 [] = some ("(*gavotte/wire.Reader).flag", 23, rflag_c, [(.tmp 2)]) := by kernel_rfl
def wrcode_l0 : AC := (.seq (.reg [oB 6 .lss 5 4]) (.seq (.cond (.t 6) .skip (.exit 0)) (.seq (.block 1 (.reg [oM 7 2, oM 8 0, oC 9 (.c (.fn 36 [])) [(.t 8)], oM 10 0, oC 11 (.c (.fn 36 [])) [(.t 10)], oA 12 (.build [(.int .i64 0), (.int .i64 0)] [(0, (1, (.t 9))), (1, (1, (.t 11)))]), oA 13 (.bsl 344013 2 49 1 (.agg [(.int .i64 0), (.int .i64 0)]) [(0, (.t 12))]), oA 14 (.app 344014 2 49 16 (.t 7) (.t 13)), oM 2 14])) (.reg [oZ 15 .add 5 1, oM 5 15]))))
def wrcode_c : AC := (.seq (.reg [oA 2 (.mv (.c .nils))]) (.seq (.seq (.reg [oM 3 0, oC 4 (.c (.fn 37 [])) [(.t 3)], oI 5 0]) (.block 0 (.loop wrcode_l0))) (.seq (.reg [oM 16 2, oM 2 16]) .ret)))
set_option maxRecDepth 100000 in
theorem wrcode_get : getF Tryz.prog 71 344000 [] = some ("(*gavotte/wire.Reader).code", 17, wrcode_c, [(.tmp 2)]) := by kernel_rfl
def rnums_l0 : AC := (.seq (.reg [oB 6 .lss 5 4]) (.seq (.cond (.t 6) .skip (.exit 0)) (.seq (.block 1 (.reg [oM 7 2, oM 8 0, oC 9 (.c (.fn 36 [])) [(.t 8)], oA 10 (.bsl 345010 1 3 1 (.int .i64 0) [(0, (.t 9))]), oA 11 (.app 345011 1 3 8 (.t 7) (.t 10)), oM 2 11])) (.reg [oZ 12 .add 5 1, oM 5 12]))))
def rnums_c : AC := (.seq (.reg [oA 2 (.mv (.c .nils))]) (.seq (.seq (.reg [oM 3 0, oC 4 (.c (.fn 37 [])) [(.t 3)], oI 5 0]) (.block 0 (.loop rnums_l0))) (.seq (.reg [oM 13 2, oM 2 13]) .ret)))
set_option maxRecDepth 100000 in
theorem rnums_get : getF Tryz.prog 102 345000 [] = some ("(*gavotte/wire.Reader).numbers", 14, rnums_c, [(.tmp 2)]) := by kernel_rfl
def rdC (ns : List Int) : AV := .agg [.lst 1 (encA ns), .bool false]
def RdL (f : FuncId) (r : AV) (ns ns' : List Int) : Prop := ∀ (nm st : Nat) (blk : Nat -> Option Blk), blk nm = some ⟨st, 2, [rdC ns]⟩ ->
 LCallP Tryz.prog (.fn f []) [.ptr nm st 2 0 0] blk { v := r, wb := [(nm, some ⟨st, 2, [rdC ns']⟩)], wt := [(nm, none)] }
theorem rdl_of {f : FuncId} {r : AV} {ns ns' : List Int} (hr : r.cl1 = true) (h : ∀ (nm st : Nat) (T : St), 400000 <= nm -> T.blk nm = some ⟨st, 2, [rdC ns]⟩ -> CallP Tryz.prog (.fn f []) [.ptr nm st 2 0 0] T fun r' S =>
   (∀ (E : Env) (v : Value), Rel E r' v -> Rel E r v) /\ S.blk nm = some ⟨st, 2, [rdC ns']⟩ /\ (∀ n, 400000 <= n -> n ≠ nm -> S.blk n = T.blk n) /\ (∀ n, 400000 <= n -> n ≠ nm -> S.tok n = T.tok n)) : RdL f r ns ns' := by
 intro nm st blk hb T hT
 have hTb := (hT nm (by simp)).trans hb
 obtain ⟨M, hM⟩ : ∃ M : Nat, 400000 = M := ⟨_, rfl⟩
 rw [hM] at h
 clear hM
 have h1 := CallP.up (P := Tryz.prog) (T := T) (vals := [.ptr nm st 2 0 0]) M rfl (h (nm + M) st ⟨T.t, (T.h.up M).blk, (T.h.up M).tok, T.clk⟩ (Nat.le_add_left _ _) ((Hp.up_get_blk _ _ _).trans hTb))
 refine (h1.localizeW r hr nm st 2 _ [rdC ns'] (by decide) hTb (by intro e he c hc; rw [List.mem_singleton] at he; subst he; simp [rdC] at hc; rcases hc with rfl | rfl <;> rfl) ?_).weaken ?_
 . rintro r' S ⟨S', ⟨q1, q2, q3, q4⟩, e1, e2, e3⟩
   refine ⟨q1, by rw [e1]; exact q2, fun m hm => ?_, fun m hm => ?_⟩
   . rw [e1]
     exact (q3 (m + M) (Nat.le_add_left _ _) (by omega)).trans (Hp.up_get_blk _ _ _)
   . rw [e2]
     exact (q4 (m + M) (Nat.le_add_left _ _) (by omega)).trans (Hp.up_get_tok _ _ _)
 . rintro r' S ⟨rfl, rfl⟩
   exact ⟨rfl, rfl⟩
theorem num_L {n : Int} {ns : List Int} (h : Ok64 (n :: ns)) : RdL 36 (iv n) (n :: ns) ns := by
 refine rdl_of rfl fun nm st T hnm hb => ?_
 have hl := h.len
 have hle : (nb (zz n)).length <= (encA (n :: ns)).length := by rw [encA_cons, List.length_append, encA_one]; omega
 refine callV (u := .mk) rnum_get (by simp) (by simp) ?_
 unfold rnum_c
 simp [hb, rdC]
 refine call (wtake_pc n h.head ns (by omega)) (by simp) ?_
 simp [hb, rdC, hle, encA_drop]
 intro m _ hm
 simp [hm]
theorem count_L {n : Nat} {ns : List Int} (h : Ok64 ((n : Int) :: ns)) (hn : n <= ns.length) : RdL 37 (iv n) ((n : Int) :: ns) ns := by
 refine rdl_of rfl fun nm st T hnm hb => ?_
 have hge := encA_ge ns
 refine callV (u := .mk) rcount_get (by simp) (by simp) ?_
 unfold rcount_c
 simp [hb]
 refine callLG (num_L h nm st _ hb) ?_
 simp [hb, rdC, show ¬ (encA ns).length < n by omega, show ¬ (n : Int) < 0 by omega]
 exact ⟨fun m _ hm => by simp [hm], fun m _ h1 h2 => absurd h2 h1⟩
theorem rflag_L {b : Bool} {ns : List Int} (h : Ok64 (bi b :: ns)) : RdL 103 (.bool b) (bi b :: ns) ns := by
 refine rdl_of rfl fun nm st T hnm hb => ?_
 refine callV (u := .mk) rflag_get (by simp) (by simp) ?_
 unfold rflag_c
 simp [hb]
 refine callLG (num_L h nm st _ hb) ?_
 cases b <;> simp [hb, rdC, bi] <;> exact ⟨fun m _ hm => by simp [hm], fun m _ h1 h2 => absurd h2 h1⟩
theorem AccIs.rel {S : St} {v : AV} {nm sz : Nat} {ty : TypeId} {xs : List AV} (h : AccIs S v nm sz ty xs) : ∀ (E : Env) (u : Value), Rel E v u -> Rel E (.lst sz xs) u := by
 rcases h with ⟨rfl, rfl⟩ | ⟨st, rfl, _⟩
 . exact fun E u h => h.lst_of_nils
 . exact fun E u h => h.lst_of_acc
theorem rnums_L {l ns : List Int} (h : Ok64 (nsN l ++ ns)) : RdL 102 (ints l) (nsN l ++ ns) ns := by
 refine rdl_of rfl fun nm st T hnm hb => ?_
 have hlen := h.2
 simp [nsN] at hlen
 refine callV (u := .mk) rnums_get (by simp) (by simp) ?_
 unfold rnums_c
 simp [hb]
 refine callLG (count_L (n := l.length) (ns := l ++ ns) h (by simp) nm st _ hb) ?_
 simp
 refine loopN (fun i S => S.t 5 = iv i /\ S.t 4 = iv l.length /\ S.t 0 = .ptr nm st 2 0 0 /\ AccIs S (S.t 2) 345011 1 3 ((l.take i).map iv) /\ S.blk nm = some ⟨st, 2, [rdC (l.drop i ++ ns)]⟩ /\ (∀ n, 400000 <= n -> n ≠ nm -> S.blk n = T.blk n) /\ (∀ n, 400000 <= n -> n ≠ nm -> S.tok n = T.tok n)) l.length
   ⟨rfl, rfl, by simp, .inl ⟨by simp, by simp⟩, by simp, fun n _ hn => by simp [hn], fun n _ hn => by simp [hn]⟩ ?_
 rintro i S hi ⟨g5, g4, g0, ga, gr, gb, gt⟩
 by_cases hlt : i < l.length
 . have ws := wrap_succ i _ hlt (by omega)
   rw [List.drop_eq_getElem_cons hlt] at gr
   have hk : Ok64 (l[i] :: (l.drop (i + 1) ++ ns)) := by
     have e : l[i] :: (l.drop (i + 1) ++ ns) = l.drop i ++ ns := by rw [List.drop_eq_getElem_cons hlt]; rfl
     rw [e]
     refine ⟨fun n hn => h.1 n ?_, by simp; omega⟩
     rcases List.mem_append.1 hn with hn | hn
     . simp [nsN, List.mem_of_mem_drop hn]
     . simp [nsN, hn]
   rw [List.take_succ_eq_append_getElem hlt, List.map_append]
   have hAl : ((l.take i).map iv).length <= 60000 := by rw [List.length_map, List.length_take]; omega
   generalize (l.take i).map iv = A at *
   simp [rnums_l0, g5, g4, g0, hlt]
   refine callLG (num_L hk nm st _ gr) ?_
   have n1 : 345011 ≠ nm := by omega
   rcases ga with ⟨q1, q2⟩ | ⟨s', q1, q2⟩
   . rw [q2]
     simp [q1, g5, g4, g0, ws, n1]
     exact ⟨.inr ⟨_, rfl, by simp⟩, fun n h1 h2 => by simp [h2, gb n h1 h2], fun n h1 h2 => by simp [h2, gt n h1 h2, show n ≠ 345010 by omega, show n ≠ 345011 by omega]⟩
   . simp [q1, q2, g5, g4, g0, ws, n1, show (A.length + 1) * 8 <= 140737488355328 by omega]
     exact ⟨.inr ⟨_, rfl, by simp⟩, fun n h1 h2 => by simp [h2, gb n h1 h2], fun n h1 h2 => by simp [h2, gt n h1 h2, show n ≠ 345010 by omega, show n ≠ 345011 by omega]⟩
 . have e : l.take i = l := List.take_of_length_le (by omega)
   have e2 : l.drop i = [] := List.drop_of_length_le (by omega)
   rw [e] at ga
   rw [e2] at gr
   simp [rnums_l0, g5, g4, g0, hlt]
   exact ⟨ga.rel, gr, gb, gt⟩
theorem ok_drop {α : Type} {f : α -> List Int} {l : List α} {ns : List Int} (h : Ok64 (l.flatMap f ++ ns)) (i : Nat) : Ok64 ((l.drop i).flatMap f ++ ns) := by
 have e : l.flatMap f ++ ns = (l.take i).flatMap f ++ ((l.drop i).flatMap f ++ ns) := by rw [<- List.append_assoc, <- List.flatMap_append, List.take_append_drop]
 rw [e] at h
 exact h.drop
theorem wrcode_L {l : List Ins} {ns : List Int} (h : Ok64 (codeN l ++ ns)) : RdL 71 (.lst 2 (l.map Ins.av)) (codeN l ++ ns) ns := by
 refine rdl_of rfl fun nm st T hnm hb => ?_
 have hlen := h.2
 rw [List.length_append, codeN_len] at hlen
 refine callV (u := .mk) wrcode_get (by simp) (by simp) ?_
 unfold wrcode_c
 simp [hb]
 refine callLG (count_L (n := l.length) (ns := (l.flatMap fun i => [i.op, i.a]) ++ ns) h (by rw [List.length_append, fm_len]; omega) nm st _ hb) ?_
 simp
 refine loopN (fun i S => S.t 5 = iv i /\ S.t 4 = iv l.length /\ S.t 0 = .ptr nm st 2 0 0 /\ AccIs S (S.t 2) 344014 2 49 ((l.take i).map Ins.av) /\ S.blk nm = some ⟨st, 2, [rdC (((l.drop i).flatMap fun i => [i.op, i.a]) ++ ns)]⟩ /\ (∀ n, 400000 <= n -> n ≠ nm -> S.blk n = T.blk n) /\ (∀ n, 400000 <= n -> n ≠ nm -> S.tok n = T.tok n)) l.length
   ⟨rfl, rfl, by simp, .inl ⟨by simp, by simp⟩, by simp, fun n _ hn => by simp [hn], fun n _ hn => by simp [hn]⟩ ?_
 rintro i S hi ⟨g5, g4, g0, ga, gr, gb, gt⟩
 by_cases hlt : i < l.length
 . have ws := wrap_succ i _ hlt (by omega)
   have hk := ok_drop (f := fun i : Ins => [i.op, i.a]) (show Ok64 ((l.flatMap fun i => [i.op, i.a]) ++ ns) from h.tail) i
   rw [List.drop_eq_getElem_cons hlt, List.flatMap_cons, List.append_assoc] at gr hk
   rw [List.take_succ_eq_append_getElem hlt, List.map_append]
   have hAl : ((l.take i).map Ins.av).length <= 60000 := by rw [List.length_map, List.length_take]; omega
   generalize (l.take i).map Ins.av = A at *
   have n1 : 344014 ≠ nm := by omega
   have n2 : 344013 ≠ nm := by omega
   generalize l[i] = x at *
   generalize ((l.drop (i + 1)).flatMap fun i => [i.op, i.a]) ++ ns = R at *
   simp [wrcode_l0, g5, g4, g0, hlt]
   refine callLG (num_L hk nm st _ gr) ?_
   simp [g0]
   refine callLG (num_L hk.tail nm st _ (by simp)) ?_
   rcases ga with ⟨q1, q2⟩ | ⟨s', q1, q2⟩
   . rw [q2]
     simp [q1, g5, g4, g0, ws, n1, n2]
     exact ⟨.inr ⟨_, rfl, by simp⟩, fun n h1 h2 => by simp [h2, gb n h1 h2], fun n h1 h2 => by simp [h2, gt n h1 h2, show n ≠ 344013 by omega, show n ≠ 344014 by omega]⟩
   . simp [q1, q2, g5, g4, g0, ws, n1, n2, show (A.length + 1) * 16 <= 140737488355328 by omega]
     exact ⟨.inr ⟨_, rfl, by simp⟩, fun n h1 h2 => by simp [h2, gb n h1 h2], fun n h1 h2 => by simp [h2, gt n h1 h2, show n ≠ 344013 by omega, show n ≠ 344014 by omega]⟩
 . have e : l.take i = l := List.take_of_length_le (by omega)
   have e2 : l.drop i = [] := List.drop_of_length_le (by omega)
   rw [e] at ga
   rw [e2] at gr
   simp [wrcode_l0, g5, g4, g0, hlt]
   exact ⟨ga.rel, gr, gb, gt⟩
end Go.Gv

namespace Go.Gv
open Go.Proofs
def wrprog_l0 : AC := (.seq (.reg [oB 6 .lss 5 4]) (.seq (.cond (.t 6) .skip (.exit 0)) (.seq (.block 1 (.regd [oF 7 0 2, oL 8 7, oM 9 0, oC 10 (.c (.fn 36 [])) [(.t 9)], oM 11 0, oC 12 (.c (.fn 71 [])) [(.t 11)], oA 13 (.build [(.int .i64 0), .nils] [(0, (1, (.t 10))), (1, (1, (.t 12)))]), oA 14 (.bsl 346014 2 52 1 (.agg [(.int .i64 0), .nils]) [(0, (.t 13))]), oA 15 (.app 346015 2 52 32 (.t 8) (.t 14)), oF 16 0 2, oN (.store 1 (.t 16) (.t 15))] [[], [0], [], [2], [], [4, 3, 2], [3, 5, 2, 4], [6, 3, 5, 2, 4], [1, 7, 5, 0, 6, 3, 2, 4], [0, 1, 2, 3, 4, 5, 6, 7, 8], [9, 8, 0, 1, 2, 3, 4, 5, 6, 7]])) (.reg [oZ 17 .add 5 1, oM 5 17]))))
def wrprog_l1 : AC := (.seq (.reg [oB 21 .lss 20 19]) (.seq (.cond (.t 21) .skip (.exit 2)) (.seq (.block 3 (.regd [oF 22 1 2, oL 23 22, oM 24 0, oC 25 (.c (.fn 102 [])) [(.t 24)], oM 26 0, oC 27 (.c (.fn 36 [])) [(.t 26)], oM 28 0, oC 29 (.c (.fn 36 [])) [(.t 28)], oM 30 0, oC 31 (.c (.fn 103 [])) [(.t 30)], oA 32 (.build [.nils, (.int .i64 0), (.int .i64 0), (.bool false)] [(0, (1, (.t 25))), (1, (1, (.t 27))), (2, (1, (.t 29))), (3, (1, (.t 31)))]), oA 33 (.bsl 346033 4 56 1 (.agg [.nils, (.int .i64 0), (.int .i64 0), (.bool false)]) [(0, (.t 32))]), oA 34 (.app 346034 4 56 48 (.t 23) (.t 33)), oF 35 1 2, oN (.store 1 (.t 35) (.t 34))] [[], [0], [], [2], [], [4, 3, 2], [], [6, 5, 4, 3, 2], [], [8, 7, 6, 5, 4, 3, 2], [3, 5, 7, 9, 2, 4, 6, 8], [10, 3, 5, 7, 9, 2, 4, 6, 8], [1, 11, 9, 0, 10, 3, 5, 7, 2, 4, 6, 8], [0, 1, 2, 3, 4, 5, 6, 7, 8, 9, 10, 11, 12], [13, 12, 0, 1, 2, 3, 4, 5, 6, 7, 8, 9, 10, 11]])) (.reg [oZ 36 .add 20 1, oM 20 36]))))
def wrprog_l2 : AC := (.seq (.reg [oB 40 .lss 39 38]) (.seq (.cond (.t 40) .skip (.exit 4)) (.seq (.block 5 (.regd [oF 41 2 2, oL 42 41, oM 43 0, oC 44 (.c (.fn 36 [])) [(.t 43)], oM 45 0, oC 46 (.c (.fn 36 [])) [(.t 45)], oM 47 0, oC 48 (.c (.fn 102 [])) [(.t 47)], oA 49 (.build [(.int .i64 0), (.int .i64 0), .nils] [(0, (1, (.t 44))), (1, (1, (.t 46))), (2, (1, (.t 48)))]), oA 50 (.bsl 346050 3 58 1 (.agg [(.int .i64 0), (.int .i64 0), .nils]) [(0, (.t 49))]), oA 51 (.app 346051 3 58 40 (.t 42) (.t 50)), oF 52 2 2, oN (.store 1 (.t 52) (.t 51))] [[], [0], [], [2], [], [4, 3, 2], [], [6, 5, 4, 3, 2], [3, 5, 7, 2, 4, 6], [8, 3, 5, 7, 2, 4, 6], [1, 9, 7, 0, 8, 3, 5, 2, 4, 6], [0, 1, 2, 3, 4, 5, 6, 7, 8, 9, 10], [11, 10, 0, 1, 2, 3, 4, 5, 6, 7, 8, 9]])) (.reg [oZ 53 .add 39 1, oM 39 53]))))
def wrprog_c : AC := (.seq (.reg [oA 2 (.new 346002 4 (.agg [.nils, .nils, .nils, (.int .i64 0)]))]) (.seq (.seq (.reg [oM 3 0, oC 4 (.c (.fn 37 [])) [(.t 3)], oI 5 0]) (.block 0 (.loop wrprog_l0))) (.seq (.seq (.reg [oM 18 0, oC 19 (.c (.fn 37 [])) [(.t 18)], oI 20 0]) (.block 2 (.loop wrprog_l1))) (.seq (.seq (.reg [oM 37 0, oC 38 (.c (.fn 37 [])) [(.t 37)], oI 39 0]) (.block 4 (.loop wrprog_l2))) (.seq (.reg [oM 54 0, oC 55 (.c (.fn 36 [])) [(.t 54)], oF 56 3 2, oN (.store 1 (.t 56) (.t 55))]) (.seq (.reg [oA 57 (.load (some 4) (.t 2)), oN (.store 4 (.t 2) (.t 57))]) .ret))))))
set_option maxRecDepth 100000 in
theorem wrprog_get : getF Tryz.prog 70 346000 [] = some ("(*gavotte/wire.Reader).program", 58, wrprog_c, [(.cell (some 4) 2)]) := by kernel_rfl
def wread_c : AC := (.seq (.reg [oA 4 (.mv (.c .nilp))]) (.seq (.seq (.reg [oM 5 0, oK 6 5, oM 7 1, oA 8 (.slen (.t 7)), oB 9 .lss 6 8, oM 10 9, gM 11 10 false 0, gM 12 10 false 1, oG 13 10 false (.slen (.t 12)), oG 14 10 false (.slice (some 1) (.t 11) none (some (.t 13))), oG 15 10 false (.bys (.t 14)), gM 16 10 false 1, oG 17 10 false (.sbin .neq (.t 15) (.t 16)), oA 18 (.pick (.t 10) (.c (.bool true)) (.t 17))]) (.cond (.t 18) (.seq (.reg [oA 19 (.build [.nils, (.bool false)] [(1, (1, (.c (.bool true))))]), oA 20 (.box 347020 2 (.t 19)), oM 4 20]) .ret) .skip)) (.seq (.reg [oM 21 0, oM 22 1, oA 23 (.slen (.t 22)), oA 24 (.slice (some 1) (.t 21) (some (.t 23)) none), oA 25 (.build [.nils, (.bool false)] [(0, (1, (.t 24)))]), oA 26 (.box 347026 2 (.t 25)), oM 4 26]) .ret)))
set_option maxRecDepth 100000 in
theorem wread_get : getF Tryz.prog 35 347000 [] = some ("gavotte/wire.Read", 27, wread_c, [(.tmp 4)]) := by kernel_rfl
def wdec_l0 : AC := (.seq (.reg [oB 18 .lss 17 16]) (.seq (.cond (.t 18) .skip (.exit 0)) (.seq (.block 1 (.regd [oF 19 4 5, oL 20 19, oM 21 4, oC 22 (.c (.fn 71 [])) [(.t 21)], oA 23 (.bsl 348023 1 53 1 .nils [(0, (.t 22))]), oA 24 (.app 348024 1 53 24 (.t 20) (.t 23)), oF 25 4 5, oN (.store 1 (.t 25) (.t 24))] [[], [0], [], [2], [3, 2], [1, 4, 3, 0, 2], [0, 1, 2, 3, 4, 5], [6, 5, 0, 1, 2, 3, 4]])) (.reg [oZ 26 .add 17 1, oM 17 26]))))
def wdec_c : AC := (.seq (.reg [oA 2 (.new 348002 11 (.agg [.nils, .nils, .nils, (.int .i64 0), .nils, (.int .i64 0), (.int .i64 0), (.int .i64 0), (.int .i64 0), (.int .i64 0), (.int .i64 0)])), oI 3 0]) (.seq (.seq (.reg [oM 6 0, oK 7 6, oZ 8 .gtr 7 65536]) (.cond (.t 8) (.seq (.reg [oA 9 (.build [.nils, .nils, .nils, (.int .i64 0), .nils, (.int .i64 0), (.int .i64 0), (.int .i64 0), (.int .i64 0), (.int .i64 0), (.int .i64 0)] []), oN (.store 11 (.t 2) (.t 9)), oI 3 3]) .ret) .skip)) (.seq (.reg [oM 10 0, oC 11 (.c (.fn 35 [])) [(.t 10), (.c (.str ⟨#[71, 65, 86, 49]⟩))], oM 4 11]) (.seq (.reg [oM 12 4, oC 13 (.c (.fn 70 [])) [(.t 12)], oA 14 (.build [.nils, .nils, .nils, (.int .i64 0), .nils, (.int .i64 0), (.int .i64 0), (.int .i64 0), (.int .i64 0), (.int .i64 0), (.int .i64 0)] [(0, (4, (.t 13)))]), oA 5 (.new 348005 11 (.agg [.nils, .nils, .nils, (.int .i64 0), .nils, (.int .i64 0), (.int .i64 0), (.int .i64 0), (.int .i64 0), (.int .i64 0), (.int .i64 0)])), oN (.store 11 (.t 5) (.t 14))]) (.seq (.seq (.reg [oM 15 4, oC 16 (.c (.fn 37 [])) [(.t 15)], oI 17 0]) (.block 0 (.loop wdec_l0))) (.seq (.reg [oM 27 4, oC 28 (.c (.fn 36 [])) [(.t 27)], oM 29 4, oC 30 (.c (.fn 36 [])) [(.t 29)], oM 31 4, oC 32 (.c (.fn 36 [])) [(.t 31)], oM 33 4, oC 34 (.c (.fn 36 [])) [(.t 33)], oA 35 (.build [(.int .i64 0), (.int .i64 0), (.int .i64 0), (.int .i64 0)] [(0, (1, (.t 28))), (1, (1, (.t 30))), (2, (1, (.t 32))), (3, (1, (.t 34)))]), oF 36 5 5, oN (.store 4 (.t 36) (.t 35))]) (.seq (.reg [oM 37 4, oC 38 (.c (.fn 36 [])) [(.t 37)], oM 39 4, oC 40 (.c (.fn 36 [])) [(.t 39)], oA 41 (.build [(.int .i64 0), (.int .i64 0)] [(0, (1, (.t 38))), (1, (1, (.t 40)))]), oF 42 9 5, oN (.store 2 (.t 42) (.t 41))]) (.seq (.seq (.reg [oM 43 4, oC 44 (.c (.fn 39 [])) [(.t 43)], oA 45 (.not (.t 44))]) (.cond (.t 45) (.seq (.reg [oA 46 (.build [.nils, .nils, .nils, (.int .i64 0), .nils, (.int .i64 0), (.int .i64 0), (.int .i64 0), (.int .i64 0), (.int .i64 0), (.int .i64 0)] []), oN (.store 11 (.t 2) (.t 46)), oI 3 2]) .ret) .skip)) (.seq (.reg [oA 47 (.load (some 11) (.t 5)), oN (.store 11 (.t 2) (.t 47)), oI 3 0]) .ret)))))))))
set_option maxRecDepth 100000 in
theorem wdec_get : getF Tryz.prog 41 348000 [] = some ("gavotte/wire.Decode", 48, wdec_c, [(.cell (some 11) 2), (.tmp 3)]) := by kernel_rfl
def OutR (n : Nat) : Prop := n < 346000 \/ 347000 <= n
structure CelIs (v : AV) (sz : Nat) (xs : List AV) : Prop where
 r : ∀ (E : Env) (u : Value), Rel E v u -> Rel E (.lst sz xs) u
 o : v.one = true
 c : v.cells = [v]
 k : ∀ B, co1 B v (.lst sz xs)
theorem AccIs.lst {S : St} {v : AV} {nm sz : Nat} {ty : TypeId} {xs : List AV} (h : AccIs S v nm sz ty xs) : CelIs v sz xs := ⟨h.rel, h.out.1, h.out.2.1, h.out.2.2⟩
theorem rp_l0 (nm st : Nat) (hnm : OutR nm) (l : List Hnd) (R : List Int) (h : Ok64 (l.flatMap hdN ++ R)) (s2 : Nat) {S : St} {κ : Ex -> St -> Prop} {u : Dep κ}
   (g5 : S.t 5 = iv 0) (g4 : S.t 4 = iv l.length) (g0 : S.t 0 = .ptr nm st 2 0 0) (g2 : S.t 2 = .ptr 346002 s2 4 0 0) (b2 : S.blk 346002 = some ⟨s2, 4, [.agg [.nils, .nils, .nils, iv 0]]⟩) (gr : S.blk nm = some ⟨st, 2, [rdC (l.flatMap hdN ++ R)]⟩)
   (hk : ∀ S' v, S'.t 0 = .ptr nm st 2 0 0 -> S'.t 2 = .ptr 346002 s2 4 0 0 -> S'.blk 346002 = some ⟨s2, 4, [.agg [v, .nils, .nils, iv 0]]⟩ -> CelIs v 2 (l.map Hnd.av) -> S'.blk nm = some ⟨st, 2, [rdC R]⟩ -> (∀ n, OutR n -> n ≠ nm -> S'.blk n = S.blk n) -> S.clk <= S'.clk -> κ (.exit 0) S') :
   LoopG Tryz.prog wrprog_l0 κ S u := by
 have hlen := h.2
 rw [List.length_append] at hlen
 have hl := len_fm hdN (fun x => by simp [hdN]) l
 have m1 : 346002 ≠ nm := by unfold OutR at hnm; omega
 have m2 : 346014 ≠ nm := by unfold OutR at hnm; omega
 have m3 : 346015 ≠ nm := by unfold OutR at hnm; omega
 refine loopN (fun i S' => S'.t 5 = iv i /\ S'.t 4 = iv l.length /\ S'.t 0 = .ptr nm st 2 0 0 /\ S'.t 2 = .ptr 346002 s2 4 0 0 /\ (∃ v, S'.blk 346002 = some ⟨s2, 4, [.agg [v, .nils, .nils, iv 0]]⟩ /\ AccIs S' v 346015 2 52 ((l.take i).map Hnd.av)) /\
   S'.blk nm = some ⟨st, 2, [rdC ((l.drop i).flatMap hdN ++ R)]⟩ /\ (∀ n, OutR n -> n ≠ nm -> S'.blk n = S.blk n) /\ S.clk <= S'.clk) l.length ⟨g5, g4, g0, g2, ⟨.nils, b2, .inl ⟨rfl, by simp⟩⟩, by simpa using gr, fun _ _ _ => rfl, Nat.le_refl _⟩ ?_
 clear g5 g4 g0 g2 b2 gr
 rintro i S' hi ⟨g5, g4, g0, g2, ⟨v, b2, ga⟩, gr, gb, gc⟩
 by_cases hlt : i < l.length
 . have ws := wrap_succ i _ hlt (by omega)
   have hk' := ok_drop h i
   rw [List.drop_eq_getElem_cons hlt, List.flatMap_cons, List.append_assoc] at gr hk'
   rw [List.take_succ_eq_append_getElem hlt, List.map_append]
   have hAl : ((l.take i).map Hnd.av).length <= 60000 := by rw [List.length_map, List.length_take]; omega
   generalize (l.take i).map Hnd.av = A at *
   generalize l[i] = x at *
   generalize ((l.drop (i + 1)).flatMap hdN) ++ R = R1 at *
   obtain ⟨vo, vc, _⟩ := ga.out
   simp [wrprog_l0, g5, g4, g0, g2, b2, hlt, vo, vc]
   refine callL (num_L hk' nm st _ gr) ?_
   simp [g5, g4, g0, g2, b2, hlt, vo, vc, m1, m1.symm]
   refine callL (wrcode_L (show Ok64 (codeN x.code ++ R1) from hk'.tail) nm st _ (by simp)) ?_
   rcases ga with ⟨q1, q2⟩ | ⟨s', q1, q2⟩
   . subst q1 q2
     simp [g5, g4, g0, g2, b2, hlt, m1, m1.symm, m2, m2.symm, m3, m3.symm, ws]
     exact ⟨.inr ⟨_, rfl, by simp⟩, fun n h1 h2 => by simp [h2, gb n h1 h2, show n ≠ 346002 by unfold OutR at h1; omega], by omega⟩
   . subst q1
     simp [g5, g4, g0, g2, b2, hlt, m1, m1.symm, m2, m2.symm, m3, m3.symm, ws, q2, show (A.length + 1) * 32 <= 140737488355328 by omega]
     exact ⟨.inr ⟨_, rfl, by simp⟩, fun n h1 h2 => by simp [h2, gb n h1 h2, show n ≠ 346002 by unfold OutR at h1; omega], by omega⟩
 . have e : l.take i = l := List.take_of_length_le (by omega)
   have e2 : l.drop i = [] := List.drop_of_length_le (by omega)
   rw [e] at ga
   rw [e2] at gr
   simp [wrprog_l0, g5, g4, g0, g2, b2, hlt]
   exact hk _ v g0 g2 b2 ga.lst gr gb (by first | omega | (simp only []; omega))
theorem rp_l1 (nm st : Nat) (hnm : OutR nm) (l : List Actr) (R : List Int) (h : Ok64 (l.flatMap acN ++ R)) (v0 : AV) {sz0 : Nat} {xs0 : List AV} (p0 : CelIs v0 sz0 xs0) (s2 : Nat) {S : St} {κ : Ex -> St -> Prop} {u : Dep κ}
   (g5 : S.t 20 = iv 0) (g4 : S.t 19 = iv l.length) (g0 : S.t 0 = .ptr nm st 2 0 0) (g2 : S.t 2 = .ptr 346002 s2 4 0 0) (b2 : S.blk 346002 = some ⟨s2, 4, [.agg [v0, .nils, .nils, iv 0]]⟩) (gr : S.blk nm = some ⟨st, 2, [rdC (l.flatMap acN ++ R)]⟩)
   (hk : ∀ S' v, S'.t 0 = .ptr nm st 2 0 0 -> S'.t 2 = .ptr 346002 s2 4 0 0 -> S'.blk 346002 = some ⟨s2, 4, [.agg [v0, v, .nils, iv 0]]⟩ -> CelIs v 4 (l.map Actr.av) -> S'.blk nm = some ⟨st, 2, [rdC R]⟩ -> (∀ n, OutR n -> n ≠ nm -> S'.blk n = S.blk n) -> S.clk <= S'.clk -> κ (.exit 2) S') :
   LoopG Tryz.prog wrprog_l1 κ S u := by
 have hlen := h.2
 rw [List.length_append] at hlen
 have hl := len_fm acN (fun x => by simp [acN, nsN]) l
 have m1 : 346002 ≠ nm := by unfold OutR at hnm; omega
 have m2 : 346033 ≠ nm := by unfold OutR at hnm; omega
 have m3 : 346034 ≠ nm := by unfold OutR at hnm; omega
 refine loopN (fun i S' => S'.t 20 = iv i /\ S'.t 19 = iv l.length /\ S'.t 0 = .ptr nm st 2 0 0 /\ S'.t 2 = .ptr 346002 s2 4 0 0 /\ (∃ v, S'.blk 346002 = some ⟨s2, 4, [.agg [v0, v, .nils, iv 0]]⟩ /\ AccIs S' v 346034 4 56 ((l.take i).map Actr.av)) /\
   S'.blk nm = some ⟨st, 2, [rdC ((l.drop i).flatMap acN ++ R)]⟩ /\ (∀ n, OutR n -> n ≠ nm -> S'.blk n = S.blk n) /\ S.clk <= S'.clk) l.length ⟨g5, g4, g0, g2, ⟨.nils, b2, .inl ⟨rfl, by simp⟩⟩, by simpa using gr, fun _ _ _ => rfl, Nat.le_refl _⟩ ?_
 clear g5 g4 g0 g2 b2 gr
 rintro i S' hi ⟨g5, g4, g0, g2, ⟨v, b2, ga⟩, gr, gb, gc⟩
 by_cases hlt : i < l.length
 . have ws := wrap_succ i _ hlt (by omega)
   have hk' := ok_drop h i
   rw [List.drop_eq_getElem_cons hlt, List.flatMap_cons, List.append_assoc] at gr hk'
   rw [List.take_succ_eq_append_getElem hlt, List.map_append]
   have hAl : ((l.take i).map Actr.av).length <= 60000 := by rw [List.length_map, List.length_take]; omega
   generalize (l.take i).map Actr.av = A at *
   generalize l[i] = x at *
   generalize ((l.drop (i + 1)).flatMap acN) ++ R = R1 at *
   obtain ⟨vo, vc, _⟩ := ga.out
   simp [wrprog_l1, g5, g4, g0, g2, b2, hlt, p0.o, p0.c, vo, vc]
   rw [show acN x ++ R1 = nsN x.regs ++ (x.cap :: x.timer :: bi x.armed :: R1) by simp [acN]] at gr hk'
   refine callL (rnums_L hk' nm st _ gr) ?_
   simp [g5, g4, g0, g2, b2, hlt, p0.o, p0.c, vo, vc, m1, m1.symm]
   refine callL (num_L hk'.drop nm st _ (by simp)) ?_
   simp [g5, g4, g0, g2, b2, hlt, p0.o, p0.c, vo, vc, m1, m1.symm]
   refine callL (num_L hk'.drop.tail nm st _ (by simp)) ?_
   simp [g5, g4, g0, g2, b2, hlt, p0.o, p0.c, vo, vc, m1, m1.symm]
   refine callL (rflag_L hk'.drop.tail.tail nm st _ (by simp)) ?_
   rcases ga with ⟨q1, q2⟩ | ⟨s', q1, q2⟩
   . subst q1 q2
     simp [g5, g4, g0, g2, b2, hlt, p0.o, p0.c, m1, m1.symm, m2, m2.symm, m3, m3.symm, ws]
     exact ⟨.inr ⟨_, rfl, by simp⟩, fun n h1 h2 => by simp [h2, gb n h1 h2, show n ≠ 346002 by unfold OutR at h1; omega], by omega⟩
   . subst q1
     simp [g5, g4, g0, g2, b2, hlt, p0.o, p0.c, m1, m1.symm, m2, m2.symm, m3, m3.symm, ws, q2, show (A.length + 1) * 48 <= 140737488355328 by omega]
     exact ⟨.inr ⟨_, rfl, by simp⟩, fun n h1 h2 => by simp [h2, gb n h1 h2, show n ≠ 346002 by unfold OutR at h1; omega], by omega⟩
 . have e : l.take i = l := List.take_of_length_le (by omega)
   have e2 : l.drop i = [] := List.drop_of_length_le (by omega)
   rw [e] at ga
   rw [e2] at gr
   simp [wrprog_l1, g5, g4, g0, g2, b2, hlt, p0.o, p0.c, p0.o, p0.c]
   exact hk _ v g0 g2 b2 ga.lst gr gb (by first | omega | (simp only []; omega))
theorem rp_l2 (nm st : Nat) (hnm : OutR nm) (l : List Nt) (R : List Int) (h : Ok64 (l.flatMap ntN ++ R)) (v0 v1 : AV) {sz0 sz1 : Nat} {xs0 xs1 : List AV} (p0 : CelIs v0 sz0 xs0) (p1 : CelIs v1 sz1 xs1) (s2 : Nat) {S : St} {κ : Ex -> St -> Prop} {u : Dep κ}
   (g5 : S.t 39 = iv 0) (g4 : S.t 38 = iv l.length) (g0 : S.t 0 = .ptr nm st 2 0 0) (g2 : S.t 2 = .ptr 346002 s2 4 0 0) (b2 : S.blk 346002 = some ⟨s2, 4, [.agg [v0, v1, .nils, iv 0]]⟩) (gr : S.blk nm = some ⟨st, 2, [rdC (l.flatMap ntN ++ R)]⟩)
   (hk : ∀ S' v, S'.t 0 = .ptr nm st 2 0 0 -> S'.t 2 = .ptr 346002 s2 4 0 0 -> S'.blk 346002 = some ⟨s2, 4, [.agg [v0, v1, v, iv 0]]⟩ -> CelIs v 3 (l.map Nt.av) -> S'.blk nm = some ⟨st, 2, [rdC R]⟩ -> (∀ n, OutR n -> n ≠ nm -> S'.blk n = S.blk n) -> S.clk <= S'.clk -> κ (.exit 4) S') :
   LoopG Tryz.prog wrprog_l2 κ S u := by
 have hlen := h.2
 rw [List.length_append] at hlen
 have hl := len_fm ntN (fun x => by simp [ntN]) l
 have m1 : 346002 ≠ nm := by unfold OutR at hnm; omega
 have m2 : 346050 ≠ nm := by unfold OutR at hnm; omega
 have m3 : 346051 ≠ nm := by unfold OutR at hnm; omega
 refine loopN (fun i S' => S'.t 39 = iv i /\ S'.t 38 = iv l.length /\ S'.t 0 = .ptr nm st 2 0 0 /\ S'.t 2 = .ptr 346002 s2 4 0 0 /\ (∃ v, S'.blk 346002 = some ⟨s2, 4, [.agg [v0, v1, v, iv 0]]⟩ /\ AccIs S' v 346051 3 58 ((l.take i).map Nt.av)) /\
   S'.blk nm = some ⟨st, 2, [rdC ((l.drop i).flatMap ntN ++ R)]⟩ /\ (∀ n, OutR n -> n ≠ nm -> S'.blk n = S.blk n) /\ S.clk <= S'.clk) l.length ⟨g5, g4, g0, g2, ⟨.nils, b2, .inl ⟨rfl, by simp⟩⟩, by simpa using gr, fun _ _ _ => rfl, Nat.le_refl _⟩ ?_
 clear g5 g4 g0 g2 b2 gr
 rintro i S' hi ⟨g5, g4, g0, g2, ⟨v, b2, ga⟩, gr, gb, gc⟩
 by_cases hlt : i < l.length
 . have ws := wrap_succ i _ hlt (by omega)
   have hk' := ok_drop h i
   rw [List.drop_eq_getElem_cons hlt, List.flatMap_cons, List.append_assoc] at gr hk'
   rw [List.take_succ_eq_append_getElem hlt, List.map_append]
   have hAl : ((l.take i).map Nt.av).length <= 60000 := by rw [List.length_map, List.length_take]; omega
   generalize (l.take i).map Nt.av = A at *
   generalize l[i] = x at *
   generalize ((l.drop (i + 1)).flatMap ntN) ++ R = R1 at *
   obtain ⟨vo, vc, _⟩ := ga.out
   simp [wrprog_l2, g5, g4, g0, g2, b2, hlt, p0.o, p0.c, p1.o, p1.c, vo, vc]
   rw [show ntN x ++ R1 = x.to :: x.hd :: (nsN x.args ++ R1) from rfl] at gr hk'
   refine callL (num_L hk' nm st _ gr) ?_
   simp [g5, g4, g0, g2, b2, hlt, p0.o, p0.c, p1.o, p1.c, vo, vc, m1, m1.symm]
   refine callL (num_L hk'.tail nm st _ (by simp)) ?_
   simp [g5, g4, g0, g2, b2, hlt, p0.o, p0.c, p1.o, p1.c, vo, vc, m1, m1.symm]
   refine callL (rnums_L hk'.tail.tail nm st _ (by simp)) ?_
   rcases ga with ⟨q1, q2⟩ | ⟨s', q1, q2⟩
   . subst q1 q2
     simp [g5, g4, g0, g2, b2, hlt, p0.o, p0.c, p1.o, p1.c, m1, m1.symm, m2, m2.symm, m3, m3.symm, ws]
     exact ⟨.inr ⟨_, rfl, by simp⟩, fun n h1 h2 => by simp [h2, gb n h1 h2, show n ≠ 346002 by unfold OutR at h1; omega], by omega⟩
   . subst q1
     simp [g5, g4, g0, g2, b2, hlt, p0.o, p0.c, p1.o, p1.c, m1, m1.symm, m2, m2.symm, m3, m3.symm, ws, q2, show (A.length + 1) * 40 <= 140737488355328 by omega]
     exact ⟨.inr ⟨_, rfl, by simp⟩, fun n h1 h2 => by simp [h2, gb n h1 h2, show n ≠ 346002 by unfold OutR at h1; omega], by omega⟩
 . have e : l.take i = l := List.take_of_length_le (by omega)
   have e2 : l.drop i = [] := List.drop_of_length_le (by omega)
   rw [e] at ga
   rw [e2] at gr
   simp [wrprog_l2, g5, g4, g0, g2, b2, hlt, p0.o, p0.c, p1.o, p1.c, p0.o, p0.c, p1.o, p1.c]
   exact hk _ v g0 g2 b2 ga.lst gr gb (by first | omega | (simp only []; omega))
theorem wrprog_v (p : Prg) (ns : List Int) (h : Ok64 (prN p ++ ns)) (nm st : Nat) (hnm : OutR nm) {S : St} {k : AV -> St -> Prop} {u : Dep k} (hb : S.blk nm = some ⟨st, 2, [rdC (prN p ++ ns)]⟩)
   (hk : ∀ S' v0 v1 v2, CelIs v0 2 (p.hs.map Hnd.av) -> CelIs v1 4 (p.as.map Actr.av) -> CelIs v2 3 (p.boot.map Nt.av) -> S'.t = S.t -> S'.blk nm = some ⟨st, 2, [rdC ns]⟩ -> (∀ n, OutR n -> n ≠ nm -> S'.blk n = S.blk n) -> S.clk <= S'.clk -> k (.agg [v0, v1, v2, iv p.fuel]) S') :
   CallG Tryz.prog (.fn 70 []) [.ptr nm st 2 0 0] S k u := by
 have e : prN p ++ ns = (p.hs.length : Int) :: (p.hs.flatMap hdN ++ ((p.as.length : Int) :: (p.as.flatMap acN ++ ((p.boot.length : Int) :: (p.boot.flatMap ntN ++ (p.fuel :: ns)))))) := by
   simp [prN]
 rw [e] at h hb
 have m1 : 346002 ≠ nm := by unfold OutR at hnm; omega
 have n1 := len_fm hdN (fun x => by simp [hdN]) p.hs
 have n2 := len_fm acN (fun x => by simp [acN, nsN]) p.as
 have n3 := len_fm ntN (fun x => by simp [ntN]) p.boot
 refine callV wrprog_get (by simp) (by simp) ?_
 unfold wrprog_c
 simp [m1, m1.symm, hb]
 refine callLG (count_L (n := p.hs.length) h (by rw [List.length_append]; omega) nm st _ (by simp [m1.symm, hb])) ?_
 simp [m1, m1.symm, hb]
 refine rp_l0 nm st hnm p.hs _ h.tail _ rfl (by simp) (by simp) (by simp; rfl) (by simp [m1]) (by simp [m1, m1.symm]) (fun S1 v0 a0 a2 ab av ar af ac => ?_)
 simp [a0, a2]
 refine callLG (count_L (n := p.as.length) h.tail.drop (by rw [List.length_append]; omega) nm st _ (by simp [m1.symm, ar])) ?_
 simp [a0, a2]
 refine rp_l1 nm st hnm p.as _ h.tail.drop.tail v0 av _ rfl (by simp) (by simp [a0]) (by simp [a2]; rfl) (by simp [m1, ab]) (by simp [m1, m1.symm]) (fun S2 v1 b0 b2 bb bv br bf bc => ?_)
 simp [b0, b2]
 refine callLG (count_L (n := p.boot.length) h.tail.drop.tail.drop (by rw [List.length_append]; omega) nm st _ (by simp [m1.symm, br])) ?_
 simp [b0, b2]
 refine rp_l2 nm st hnm p.boot _ h.tail.drop.tail.drop.tail v0 v1 av bv _ rfl (by simp) (by simp [b0]) (by simp [b2]; rfl) (by simp [m1, bb]) (by simp [m1, m1.symm]) (fun S3 v2 c0 c2 cb cv cr cf cc => ?_)
 simp [c0, c2]
 refine callLG (num_L h.tail.drop.tail.drop.tail.drop nm st _ (by simp [m1.symm, cr])) ?_
 simp [c0, c2, cb, m1, m1.symm, av.o, av.c, bv.o, bv.c, cv.o, cv.c]
 refine hk _ v0 v1 v2 av bv cv rfl (by simp [m1, m1.symm]) (fun n h1 h2 => ?_) ?_
 . have q : n ≠ 346002 := by unfold OutR at h1; omega
   simp [q, h2, cf n h1 h2, bf n h1 h2, af n h1 h2]
 . simp at ac bc cc ⊢
   omega
theorem wread_v (lit : List AV) (s : ByteArray) (l : List UInt8) (h1 : lit.length = 4) (h2 : s.size = 4) (h3 : strOf lit = some l) (h4 : strEq ⟨l.toArray⟩ s = true) (ns : List Int) {S : St} {k : AV -> St -> Prop} {u : Dep k}
   (hk : ∀ S' st, S'.t = S.t -> S'.blk 347026 = some ⟨st, 2, [rdC ns]⟩ -> (∀ n, n ≠ 347026 -> S'.blk n = S.blk n) -> S.clk <= S'.clk -> k (.ptr 347026 st 2 0 0) S') :
   CallG Tryz.prog (.fn 35 []) [.lst 1 (lit ++ encA ns), .str s] S k u := by
 have e1 : (lit ++ encA ns).take 4 = lit := by rw [<- h1]; exact List.take_left
 have e2 : (lit ++ encA ns).drop 4 = encA ns := by rw [<- h1]; exact List.drop_left
 have e3 : 4 <= (lit ++ encA ns).length := by rw [List.length_append]; omega
 refine callV wread_get (by simp) (by simp) ?_
 unfold wread_c
 generalize lit ++ encA ns = X at *
 simp [h2, h3, h4, e1, e2, e3, show ¬ (X.length : Int) < 4 by omega]
 exact hk _ _ rfl (by simp [rdC]) (fun n hn => by simp [hn]) (by simp only []; omega)
def zz6 : List AV := [iv 0, iv 0, iv 0, iv 0, iv 0, iv 0]
theorem wd_l0 (st : Nat) (l : List (List Ins)) (R : List Int) (h : Ok64 (l.flatMap codeN ++ R)) (v0 v1 v2 : AV) {sz0 sz1 sz2 : Nat} {xs0 xs1 xs2 : List AV} (p0 : CelIs v0 sz0 xs0) (p1 : CelIs v1 sz1 xs1) (p2 : CelIs v2 sz2 xs2) (fu : Int) (s2 s5 : Nat) (B2 : Blk) {S : St} {κ : Ex -> St -> Prop} {u : Dep κ}
   (g17 : S.t 17 = iv 0) (g16 : S.t 16 = iv l.length) (g4 : S.t 4 = .ptr 347026 st 2 0 0) (g5 : S.t 5 = .ptr 348005 s5 11 0 0) (g2 : S.t 2 = .ptr 348002 s2 11 0 0) (b2 : S.blk 348002 = some B2) (b5 : S.blk 348005 = some ⟨s5, 11, [.agg ([v0, v1, v2, iv fu, .nils] ++ zz6)]⟩) (gr : S.blk 347026 = some ⟨st, 2, [rdC (l.flatMap codeN ++ R)]⟩)
   (hk : ∀ S' w, S'.t 4 = .ptr 347026 st 2 0 0 -> S'.t 5 = .ptr 348005 s5 11 0 0 -> S'.t 2 = .ptr 348002 s2 11 0 0 -> S'.blk 348002 = some B2 -> S'.blk 348005 = some ⟨s5, 11, [.agg ([v0, v1, v2, iv fu, w] ++ zz6)]⟩ -> CelIs w 1 (l.map fun x => .lst 2 (x.map Ins.av)) -> S'.blk 347026 = some ⟨st, 2, [rdC R]⟩ -> κ (.exit 0) S') :
   LoopG Tryz.prog wdec_l0 κ S u := by
 have hlen := h.2
 rw [List.length_append] at hlen
 have hl := len_fm codeN (fun x => by simp [codeN]) l
 refine loopN (fun i S' => S'.t 17 = iv i /\ S'.t 16 = iv l.length /\ S'.t 4 = .ptr 347026 st 2 0 0 /\ S'.t 5 = .ptr 348005 s5 11 0 0 /\ S'.t 2 = .ptr 348002 s2 11 0 0 /\ S'.blk 348002 = some B2 /\
   (∃ w, S'.blk 348005 = some ⟨s5, 11, [.agg ([v0, v1, v2, iv fu, w] ++ zz6)]⟩ /\ AccIs S' w 348024 1 53 ((l.take i).map fun x => .lst 2 (x.map Ins.av))) /\ S'.blk 347026 = some ⟨st, 2, [rdC ((l.drop i).flatMap codeN ++ R)]⟩) l.length
   ⟨g17, g16, g4, g5, g2, b2, ⟨.nils, b5, .inl ⟨rfl, by simp⟩⟩, by simpa using gr⟩ ?_
 clear g17 g16 g4 g5 g2 b2 b5 gr
 rintro i S' hi ⟨g17, g16, g4, g5, g2, b2, ⟨w, b5, ga⟩, gr⟩
 by_cases hlt : i < l.length
 . have ws := wrap_succ i _ hlt (by omega)
   have hk' := ok_drop h i
   rw [List.drop_eq_getElem_cons hlt, List.flatMap_cons, List.append_assoc] at gr hk'
   rw [List.take_succ_eq_append_getElem hlt, List.map_append]
   have hAl : ((l.take i).map fun x => AV.lst 2 (x.map Ins.av)).length <= 60000 := by rw [List.length_map, List.length_take]; omega
   generalize ((l.take i).map fun x => AV.lst 2 (x.map Ins.av)) = A at *
   generalize l[i] = x at *
   generalize ((l.drop (i + 1)).flatMap codeN) ++ R = R1 at *
   obtain ⟨vo, vc, _⟩ := ga.out
   simp [wdec_l0, g17, g16, g4, g5, b5, hlt, vo, vc, p0.o, p1.o, p2.o, zz6]
   refine callL (wrcode_L hk' 347026 st _ gr) ?_
   rcases ga with ⟨q1, q2⟩ | ⟨s', q1, q2⟩
   . subst q1 q2
     simp [g17, g16, g4, g5, g2, b2, b5, ws, p0.o, p1.o, p2.o, zz6]
     exact .inr ⟨_, rfl, by simp⟩
   . subst q1
     simp [g17, g16, g4, g5, g2, b2, b5, ws, q2, p0.o, p1.o, p2.o, zz6, show (A.length + 1) * 24 <= 140737488355328 by omega]
     exact .inr ⟨_, rfl, by simp⟩
 . have e : l.take i = l := List.take_of_length_le (by omega)
   have e2 : l.drop i = [] := List.drop_of_length_le (by omega)
   rw [e] at ga
   rw [e2] at gr
   simp [wdec_l0, g17, g16, hlt]
   exact hk _ w g4 g5 g2 b2 b5 ga.lst gr
theorem rgood_L : RdL 39 (.bool true) [] [] := by
 refine rdl_of rfl fun nm st T hnm hb => ?_
 refine callV (u := .mk) rgood_get (by simp) (by simp) ?_
 unfold rgood_c
 simp [hb, rdC]
theorem wdec_pc (c : Cfg) (h : Ok64 (tkN c)) (hlen : (tkN c).length <= 6000) : PC Tryz.prog 41 [.lst 1 (lit4 71 65 86 49 ++ encA (tkN c))] (.tup [c.av, iv 0]) := by
 have hT := encA_le (tkN c) h.1
 have hX : ¬ (65536 : Int) < ((lit4 71 65 86 49).length : Int) + ((encA (tkN c)).length : Int) := by
   have : (lit4 71 65 86 49).length = 4 := rfl
   omega
 have e : tkN c = prN c.p ++ ((c.l.length : Int) :: (c.l.flatMap codeN ++ limN c)) := by simp [tkN]
 have n3 := len_fm codeN (fun x => by simp [codeN]) c.l
 have hl := hlen
 rw [e] at h hl
 simp only [List.length_append, List.length_cons] at hl
 refine pc_of_get wdec_get (by simp) _ (by simp) _ ?_
 unfold wdec_c
 simp [hX]
 refine wread_v (lit4 71 65 86 49) ⟨#[71, 65, 86, 49]⟩ [71, 65, 86, 49] rfl rfl (by decide) (by simp [strEq]) (tkN c) (fun S1 st a1 a2 a3 a4 => ?_)
 have b2 := a3 348002 (by decide)
 simp at b2
 simp [a1]
 rw [e] at a2
 refine wrprog_v c.p _ h 347026 st (.inr (by decide)) (by simp [a2]) (fun S2 v0 v1 v2 p0 p1 p2 c1 c2 c3 c4 => ?_)
 have d2 := c3 348002 (.inr (by decide)) (by decide)
 simp [b2] at d2
 simp [c1, a1, p0.o, p0.c, p1.o, p1.c, p2.o, p2.c]
 have h1 := h.drop
 refine callLG (count_L (n := c.l.length) h1 (by rw [List.length_append]; omega) 347026 st _ (by simp [c2])) ?_
 simp
 refine wd_l0 st c.l (limN c) h1.tail v0 v1 v2 p0 p1 p2 c.p.fuel _ _ _ rfl (by simp) (by simp) (by simp; rfl) (by simp; rfl) (by simp [d2]; rfl) (by simp [zz6]) (by simp) (fun S3 w g4 g5 g2 b2' b5 pw gr => ?_)
 have h2 := h1.tail.drop
 have ew := pw.o
 have ec := pw.c
 simp [zz6] at b5
 simp [limN] at gr h2
 simp [g4, g5, g2]
 refine callLG (num_L h2 347026 st _ (by simp [gr])) ?_
 simp [g4, g5, g2]
 refine callLG (num_L h2.tail 347026 st _ (by simp)) ?_
 simp [g4, g5, g2]
 refine callLG (num_L h2.tail.tail 347026 st _ (by simp)) ?_
 simp [g4, g5, g2]
 refine callLG (num_L h2.tail.tail.tail 347026 st _ (by simp)) ?_
 simp [g4, g5, g2, b5, p0.o, p1.o, p2.o, ew]
 refine callLG (num_L h2.tail.tail.tail.tail 347026 st _ (by simp)) ?_
 simp [g4, g5, g2, b5]
 refine callLG (num_L h2.tail.tail.tail.tail.tail 347026 st _ (by simp)) ?_
 simp [g4, g5, g2, b5, p0.o, p1.o, p2.o, ew]
 refine callLG (rgood_L 347026 st _ (by simp)) ?_
 simp [g4, g5, g2, b5, b2', p0.o, p1.o, p2.o, ew, d2, Cfg.av, watchesAv, co, coL, p0.k, p1.k, p2.k, pw.k]
end Go.Gv
