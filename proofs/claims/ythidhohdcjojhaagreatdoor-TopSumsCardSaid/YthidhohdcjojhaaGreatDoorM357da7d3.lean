/- Texts of this proof, one behind the other. What is proved, and on which conditions, stands ahead of each. -/
import Derived.Test.YthidhohdcjojhaaGreatDoorProg
import Derived.Test.YthidhohdcjojhaaGreatDoorM81f92e5
import Derived.Test.YthidhohdcjojhaaGreatDoorM34f8c058
import Derived.Test.YthidhohdcjojhaaGreatDoorM224751cf
import Derived.Test.YthidhohdcjojhaaGreatDoorM1661a20e
import Derived.Test.YthidhohdcjojhaaGreatDoorM33f26075

set_option linter.unusedVariables false
set_option linter.unusedSimpArgs false
namespace Go.Gv
open Go.Proofs
open Go.RowKit Go.Shelf
def sv (l : List UInt8) : AV := .str ⟨l.toArray⟩
theorem rel_str {E : Env} {b : ByteArray} {v : Value} (h : Rel E (.str b) v) : v = .string b := by cases h; rfl
theorem maxLen_at {w : World} (hG : GlB w.heap.size w) : ∃ m, w.cell? ⟨0, 0, none⟩ = some (.int .i64 m) := by
 obtain ⟨⟨a, t, p, m, h1, h2⟩, _⟩ := hG.ok
 have h1' : w.heap[0]? = some (.cells a t p) := h1
 exact ⟨m, by simp only [World.cell?]; rw [h1']; simpa using h2⟩
theorem size_ba (l : List UInt8) : (⟨l.toArray⟩ : ByteArray).size = l.length := rfl
theorem below_drewN (w : World) (n : Nat) : Below w.heap.size w (w.drewN n) := ⟨rfl, rfl, rfl, Nat.le_refl _, fun _ _ => rfl⟩
theorem itoa_pc (i : Nat) (hi : i < 100) : PC Tryz.prog 78 [iv i] (sv (Lib.decDigits i)) := by
 refine ⟨entersF 78 _ Tryz.func78 (by kernel_rfl) (by kernel_rfl), fun K w vs hK hG hsz hrel => ?_⟩
 obtain ⟨v0, rfl⟩ := args1 (by simpa using hsz)
 obtain rfl := rel_int (hrel 0 _ v0 rfl rfl)
 have h := Go.Proofs.Any.strconv_Itoa_small Tryz.itoaL i hi w
 change Calls Tryz.prog 78 _ _ _ at h
 refine h.mono ?_
 rintro e w' ⟨rfl, rfl⟩
 exact ⟨_, rfl, Below.refl _ _, .str _⟩
theorem cut_pc (s sep : List UInt8) (hs : s.length < 4294967281) : PC Tryz.prog 115 [sv s, sv sep] (.tup [sv (Lib.cut s sep).1, sv (Lib.cut s sep).2.1, .bool (Lib.cut s sep).2.2]) := by
 refine ⟨entersF 115 _ Tryz.func115 (by kernel_rfl) (by kernel_rfl), fun K w vs hK hG hsz hrel => ?_⟩
 obtain ⟨v0, v1, rfl⟩ := args2 (by simpa using hsz)
 obtain rfl := rel_str (hrel 0 _ v0 rfl rfl)
 obtain rfl := rel_str (hrel 1 _ v1 rfl rfl)
 obtain ⟨m, hm⟩ := maxLen_at hG
 have h := Go.Proofs.Any.strings_Cut Tryz.cutL ⟨s.toArray⟩ ⟨sep.toArray⟩ m w (by rw [size_ba]; exact hs) hm
 change Calls Tryz.prog 115 _ _ _ at h
 refine h.mono ?_
 rintro e w' ⟨rfl, n, rfl⟩
 refine ⟨_, rfl, below_drewN _ _, ?_⟩
 refine .tup _ _ rfl (fun j y v hy hv => ?_)
 match j, hy, hv with
 | 0, hy, hv => cases hy; cases hv; exact .str _
 | 1, hy, hv => cases hy; cases hv; exact .str _
 | 2, hy, hv => cases hy; cases hv; exact .bool _
 | j + 3, hy, _ => simp at hy
theorem bextra (ρ : Ren) (h72 : ρ.t 72 = 192) (h5 : ρ.t 5 = 5) : Go.Proofs.Builder.Extra Tryz.prog ρ where
 sizeBuilder := by rw [h72]; kernel_rfl
 liesBuilder := by rw [h72]; kernel_rfl
 t5 := by rw [h5]; exact Tryz.underlying5
 a5 := by rw [h5]; exact Tryz.isAgg5
 z5 := by rw [h5]; exact Tryz.sizeOf5
 v5 := by rw [h5]; exact Tryz.zeroValue5
 infoByte := by rw [h5]; kernel_rfl
 cellsByte := by rw [h5]; kernel_rfl
 sizeByte := by rw [h5]; kernel_rfl
 neB5 := by rw [h5, h72]; decide
theorem args4 {args : Array Value} (h : args.size = 4) : ∃ a b c d, args = #[a, b, c, d] := by
 refine ⟨args[0], args[1], args[2], args[3], ?_⟩
 apply Array.ext
 . simp [h]
 . intro i h1 h2
   match i, h1 with
   | 0, _ => rfl
   | 1, _ => rfl
   | 2, _ => rfl
   | 3, _ => rfl
   | i + 4, h1 => omega
theorem repl_pc (s old new : List UInt8) (n : Int) (hs : s.length < 4294967281) (h1 : 1 <= old.length) (hlen : s.length + Lib.countB ⟨s.toArray⟩ ⟨old.toArray⟩ * new.length <= 140737488355328) : PC Tryz.prog 77 [sv s, sv old, sv new, iv n] (sv (Lib.replace s old new n)) := by
 refine ⟨entersF 77 _ Tryz.func77 (by kernel_rfl) (by kernel_rfl), fun K w vs hK hG hsz hrel => ?_⟩
 obtain ⟨v0, v1, v2, v3, rfl⟩ := args4 (by simpa using hsz)
 obtain rfl := rel_str (hrel 0 _ v0 rfl rfl)
 obtain rfl := rel_str (hrel 1 _ v1 rfl rfl)
 obtain rfl := rel_str (hrel 2 _ v2 rfl rfl)
 obtain rfl := rel_int (hrel 3 _ v3 rfl rfl)
 obtain ⟨m, hm⟩ := maxLen_at hG
 have h := Go.Proofs.Any.strings_Replace Tryz.replL (bextra Tryz.replL_ren rfl rfl) ⟨s.toArray⟩ ⟨old.toArray⟩ ⟨new.toArray⟩ n m w hs hm h1 hlen
 change Calls Tryz.prog 77 _ _ _ at h
 refine h.mono ?_
 rintro e w' ⟨rfl, hb⟩
 exact ⟨_, rfl, hb, .str _⟩
theorem replA_pc (s old new : List UInt8) (hs : s.length < 4294967281) (h1 : 1 <= old.length) (hlen : s.length + Lib.countB ⟨s.toArray⟩ ⟨old.toArray⟩ * new.length <= 140737488355328) : PC Tryz.prog 80 [sv s, sv old, sv new] (sv (Lib.replaceAll s old new)) := by
 refine ⟨entersF 80 _ Tryz.func80 (by kernel_rfl) (by kernel_rfl), fun K w vs hK hG hsz hrel => ?_⟩
 obtain ⟨v0, v1, v2, rfl⟩ := args3 (by simpa using hsz)
 obtain rfl := rel_str (hrel 0 _ v0 rfl rfl)
 obtain rfl := rel_str (hrel 1 _ v1 rfl rfl)
 obtain rfl := rel_str (hrel 2 _ v2 rfl rfl)
 obtain ⟨m, hm⟩ := maxLen_at hG
 have h := Go.Proofs.Any.strings_ReplaceAll Tryz.replAL (bextra Tryz.replAL_ren rfl rfl) ⟨s.toArray⟩ ⟨old.toArray⟩ ⟨new.toArray⟩ m w hs hm h1 hlen
 change Calls Tryz.prog 80 _ _ _ at h
 refine h.mono ?_
 rintro e w' ⟨rfl, hb⟩
 exact ⟨_, rfl, hb, .str _⟩
theorem strs_cells {K : Nat -> Nat -> Option Value} {xs : List (List UInt8)} {v : Value} (h : Rel (envK K) (.lst 1 (xs.map sv)) v) (hx : xs ≠ []) : ∃ b o cap, v = .slice (some ⟨b, o, none⟩) xs.length cap /\ xs.length <= cap /\ ∀ (j : Nat) (x : List UInt8), xs[j]? = some x -> K b (o + j) = some (.string ⟨x.toArray⟩) := by
 generalize hy : xs.map sv = ys at h
 cases h with
 | lst0 _ a cap => simp at hy; exact absurd hy hx
 | lst _ b o _ cap f hcap hsz hk h1 hr =>
   subst hy
   refine ⟨b, o, cap, by simp, by simpa using hcap, fun j x hj => ?_⟩
   have hlt := (List.getElem?_eq_some_iff.1 hj).1
   have e1 := hk j 0 (by simpa using hlt) (by decide)
   have e2 := hr j (sv x) (by simp [hj]) 0 _ rfl
   have e3 := rel_str e2
   rw [e3] at e1
   have : o + j * 1 + 0 = o + j := by omega
   rw [this] at e1
   exact e1
theorem join_pc (xs : List (List UInt8)) (sep : List UInt8) (hx : 1 <= xs.length) (hN : xs.length <= 1000) (hlen : (Lib.join xs sep).length <= 140737488355328) : PC Tryz.prog 81 [.lst 1 (xs.map sv), sv sep] (sv (Lib.join xs sep)) := by
 refine ⟨entersF 81 _ Tryz.func81 (by kernel_rfl) (by kernel_rfl), fun K w vs hK hG hsz hrel => ?_⟩
 obtain ⟨v0, v1, rfl⟩ := args2 (by simpa using hsz)
 have hne : xs ≠ [] := fun q => by rw [q] at hx; simp at hx
 obtain ⟨b, o, cap, rfl, hcap, hc⟩ := strs_cells (hrel 0 _ v0 rfl rfl) hne
 obtain rfl := rel_str (hrel 1 _ v1 rfl rfl)
 have hmm : (xs.map fun l => (⟨l.toArray⟩ : ByteArray)).map (fun x => x.data.toList) = xs := by simp [List.map_map, Function.comp_def]
 by_cases h2 : 2 <= xs.length
 . have hbk : b < w.heap.size := World.block_lt_of_cell? w _ (hK b o _ (hc 0 _ (List.getElem?_eq_getElem (by omega))))
   have h := Go.Proofs.Any.strings_Join_many Tryz.joinL (bextra Tryz.joinL_ren rfl rfl) b o cap (xs.map fun l => ⟨l.toArray⟩) ⟨sep.toArray⟩ w (fun j x hj => by
     rw [List.getElem?_map, Option.map_eq_some_iff] at hj
     obtain ⟨y, hy, rfl⟩ := hj
     exact hK _ _ _ (hc j y hy)) hbk (by simpa using h2) (by simp; omega) (by simpa using hcap) (by rw [hmm]; exact hlen)
   rw [hmm, List.length_map] at h
   change Calls Tryz.prog 81 _ _ _ at h
   refine h.mono ?_
   rintro e w' ⟨rfl, hb⟩
   exact ⟨_, rfl, hb, .str _⟩
 . obtain ⟨x, rfl⟩ : ∃ x, xs = [x] := by
     match xs, hx, h2 with
     | [x], _, _ => exact ⟨x, rfl⟩
     | x :: y :: r, _, h2 => exact absurd (by simp) h2
   have h := Go.Proofs.Any.strings_Join_one Tryz.joinL (bextra Tryz.joinL_ren rfl rfl) b o cap ⟨x.toArray⟩ ⟨sep.toArray⟩ w (hK _ _ _ (hc 0 x rfl))
   change Calls Tryz.prog 81 _ _ _ at h
   refine h.mono ?_
   rintro e w' ⟨rfl, rfl⟩
   refine ⟨_, rfl, Below.refl _ _, ?_⟩
   rw [Lib.join_one]
   exact .str _
theorem spaceTab_eq : spaceTab = Lib.asciiSpaceTab := by decide +kernel
theorem fields_pc (s : List UInt8) (hs : s.length < 4294967281) (ha : ∀ b ∈ s, b.toNat < 128) : PC Tryz.prog 202 [sv s] (.lst 1 ((Lib.fields s).map sv)) := by
 refine ⟨entersF 202 _ Tryz.func202 (by kernel_rfl) (by kernel_rfl), fun K w vs hK hG hsz hrel => ?_⟩
 obtain ⟨v0, rfl⟩ := args1 (by simpa using hsz)
 obtain rfl := rel_str (hrel 0 _ v0 rfl rfl)
 obtain ⟨_, t, p, h4⟩ := hG.ok
 have h4' : w.heap[4]? = some (.cells spaceCells t p) := h4
 have hg : Tryz.prog.globalNamed "strings.asciiSpace" = some 4 := by kernel_rfl
 have htab : Lib.TabIs Tryz.prog w "strings.asciiSpace" .u8 Lib.asciiSpaceTab := by
   rw [<- spaceTab_eq]
   unfold Lib.TabIs World.var?
   rw [hg]
   simp only [Option.bind_some, h4']
   rfl
 have h := Go.Proofs.Any.strings_Fields Tryz.fieldsL (by kernel_rfl) hg ⟨s.toArray⟩ w hs (fun j b hb => ha b (List.mem_of_getElem? hb)) htab
 change Calls Tryz.prog 202 _ _ _ at h
 refine h.mono ?_
 rintro e w' ⟨rfl, rfl⟩
 refine ⟨_, rfl, (Below.refl _ _).alloc (Nat.le_refl _) _, ?_⟩
 have e0 : (⟨s.toArray⟩ : ByteArray).data.toList = s := by simp
 rw [e0]
 obtain ⟨xs, hxs⟩ : ∃ xs, xs = Lib.fields s := ⟨_, rfl⟩
 rw [<- hxs]
 by_cases h0 : xs = []
 . rw [h0]; exact .lst0 1 _ _
 . have := Rel.lst (E := envK (over K w (w.alloc (.cells (xs.map fun l => Value.string ⟨l.toArray⟩).toArray (Tryz.fieldsL_ren.t 9))))) (xs.map sv) w.heap.size 0 1 xs.length (fun i _ => .string ⟨(xs.getD i []).toArray⟩) (by simp) (by
       intro x hx
       obtain ⟨y, _, rfl⟩ := List.mem_map.1 hx
       rfl) (by
       intro i j hi hj
       have hi' : i < xs.length := by simpa using hi
       show over K w _ w.heap.size (0 + i * 1 + j) = _
       unfold over
       rw [if_neg (by omega), World.cell?_alloc_at (w := w) _ _ w.heap.size _ rfl]
       have : 0 + i * 1 + j = i := by omega
       rw [this]
       simp [hi', List.getD]) (by
       intro i x hx j y hy
       rw [List.getElem?_map, Option.map_eq_some_iff] at hx
       obtain ⟨z, _, rfl⟩ := hx
       have : y = sv z := by
         match j, hy with
         | 0, hy => cases hy; rfl
         | j + 1, hy => simp [sv, AV.cells] at hy
       rw [this]; rfl) (by
       intro i x hx j y hy
       rw [List.getElem?_map, Option.map_eq_some_iff] at hx
       obtain ⟨z, hz, rfl⟩ := hx
       have : y = sv z := by
         match j, hy with
         | 0, hy => cases hy; rfl
         | j + 1, hy => simp [sv, AV.cells] at hy
       rw [this]
       simp only [List.getD, hz, Option.getD_some]
       exact .str _)
   rw [List.length_map] at this
   exact this
end Go.Gv

namespace Go.Gv
open Go.Proofs
def idxS_l0 : AC := (.seq (.reg [oB 9 .lss 8 7]) (.seq (.cond (.t 9) .skip (.exit 0)) (.seq (.block 1 (.seq (.reg [oM 10 8, oM 5 10]) (.seq (.reg [oM 11 1, oM 12 0, oM 13 5, oA 14 (.idx 1 (.t 12) (.t 13)), oL 15 14, oA 16 (.sbin .eql (.t 11) (.t 15))]) (.cond (.t 16) (.seq (.reg [oM 17 5, oM 4 17]) .ret) .skip)))) (.reg [oZ 18 .add 8 1, oM 8 18]))))
def idxS_c : AC := (.seq (.reg [oI 4 0]) (.seq (.seq (.reg [oM 6 0, oK 7 6, oI 8 0]) (.block 0 (.loop idxS_l0))) (.seq (.reg [oI 4 (-1)]) .ret)))
set_option maxRecDepth 100000 in
theorem idxS_get : getF Tryz.prog 201 280000 [] = some ("slices.Index[[]string,string]", 19, idxS_c, [(.tmp 4)]) := by kernel_rfl
def ofind_c : AC := (.seq (.reg [oI 2 0, oA 3 (.mv (.c (.bool false)))]) (.seq (.reg [oC 5 (.c (.fn 202 [])) [(.c (.str ⟨#[112, 117, 115, 104, 32, 112, 111, 112, 32, 99, 111, 112, 121, 32, 115, 119, 97, 112, 32, 108, 111, 97, 100, 32, 115, 116, 111, 114, 101, 32, 97, 114, 103, 32, 115, 101, 108, 102, 32, 97, 100, 100, 32, 115, 117, 98, 32, 109, 117, 108, 32, 100, 105, 118, 32, 109, 111, 100, 32, 110, 101, 103, 32, 101, 113, 32, 108, 101, 115, 115, 32, 97, 110, 100, 32, 111, 114, 32, 110, 111, 116, 32, 106, 117, 109, 112, 32, 122, 101, 114, 111, 32, 115, 101, 110, 100, 32, 97, 114, 109, 32, 99, 97, 108, 109, 32, 101, 110, 100]⟩))], oM 6 0, oC 7 (.c (.fn 201 [])) [(.t 5), (.t 6)], oM 4 7]) (.seq (.reg [oM 8 4, oZ 9 .add 8 1, oM 10 4, oZ 11 .geq 10 0, oM 2 9, oM 3 11]) .ret)))
set_option maxRecDepth 100000 in
theorem ofind_get : getF Tryz.prog 153 281000 [] = some ("gavotte/ops.Find", 12, ofind_c, [(.tmp 2), (.tmp 3)]) := by kernel_rfl
def aline_c : AC := (.seq (.reg [oA 2 (.new 283002 2 (.agg [(.int .i64 0), (.int .i64 0)])), oA 3 (.mv (.c (.bool false)))]) (.seq (.reg [oM 8 0, oC 9 (.c (.fn 115 [])) [(.t 8), (.c (.str ⟨#[32]⟩))], oM 7 9, oE 10 7 0, oE 11 7 1, oE 12 7 2, oM 4 10, oM 5 11, oM 6 12]) (.seq (.seq (.reg [oM 14 4, oC 15 (.c (.fn 153 [])) [(.t 14)], oM 13 15, oE 16 13 0, oE 17 13 1, oF 18 0 2, oN (.store 1 (.t 18) (.t 16)), oM 3 17]) (.seq (.reg [oM 19 3, oA 20 (.not (.t 19)), oM 21 20, gM 22 21 false 6, gF 23 21 false 0 2, gL 24 21 false 23, ⟨(some 25), (some (21, false)), (.call (.c (.fn 154 [])) [(.t 24)])⟩, oG 26 21 false (.ibin .neq (.t 25) (.c (.int .i64 0))), oG 27 21 false (.eqv true (.t 22) (.t 26)), oA 28 (.pick (.t 21) (.c (.bool true)) (.t 27))]) (.cond (.t 28) (.seq (.reg [oA 29 (.build [(.int .i64 0), (.int .i64 0)] []), oN (.store 2 (.t 2) (.t 29)), oA 3 (.mv (.c (.bool false)))]) .ret) .skip))) (.seq (.seq (.reg [oM 30 6]) (.cond (.t 30) (.reg [oM 32 5, oC 33 (.c (.fn 155 [])) [(.t 32)], oM 31 33, oE 34 31 0, oE 35 31 1, oF 36 1 2, oN (.store 1 (.t 36) (.t 34)), oM 3 35]) .skip)) (.seq (.reg [oA 37 (.load (some 2) (.t 2)), oM 38 3, oN (.store 2 (.t 2) (.t 37)), oM 3 38]) .ret)))))
set_option maxRecDepth 100000 in
theorem aline_get : getF Tryz.prog 116 283000 [] = some ("gavotte/asm.line", 39, aline_c, [(.cell (some 2) 2), (.tmp 3)]) := by kernel_rfl
def aparse_l0 : AC := (.seq (.seq (.reg [oM 9 0, oA 10 (.sbin .neq (.t 9) (.c (.str ⟨#[]⟩)))]) (.cond (.t 10) .skip (.exit 0))) (.block 1 (.seq (.reg [oM 12 0, oC 13 (.c (.fn 115 [])) [(.t 12), (.c (.str ⟨#[10]⟩))], oM 11 13, oE 14 11 0, oE 15 11 1, oE 16 11 2, oM 4 14, oM 5 15, oM 6 16]) (.seq (.reg [oM 18 4, oC 19 (.c (.fn 116 [])) [(.t 18)], oM 17 19, oE 20 17 0, oE 21 17 1, oA 7 (.new 284007 2 (.agg [(.int .i64 0), (.int .i64 0)])), oN (.store 2 (.t 7) (.t 20)), oM 8 21]) (.seq (.seq (.reg [oM 22 8, oA 23 (.not (.t 22)), oM 24 23, gM 25 24 false 6, oG 26 24 false (.not (.t 25)), oA 27 (.pick (.t 24) (.c (.bool true)) (.t 26))]) (.cond (.t 27) (.seq (.reg [oA 2 (.mv (.c .nils)), oI 3 2]) .ret) .skip)) (.reg [oM 28 2, oA 29 (.load (some 2) (.t 7)), oA 30 (.bslm 1000284030 2 49 1 (.agg [(.int .i64 0), (.int .i64 0)]) [(0, (.t 29))]), oA 31 (.appw 1000284031 2 49 16 (.t 28) (.t 30)), oM 32 5, oM 2 31, oM 0 32]))))))
def aparse_c : AC := (.seq (.reg [oA 2 (.mv (.c .nils)), oI 3 0]) (.seq (.block 0 (.loop aparse_l0)) (.seq (.reg [oM 33 2, oM 2 33, oI 3 0]) .ret)))
set_option maxRecDepth 100000 in
theorem aparse_get : getF Tryz.prog 79 284000 [(30, 1000000030), (31, 1000000031)] = some ("gavotte/asm.Parse", 34, aparse_c, [(.tmp 2), (.tmp 3)]) := by kernel_rfl
def mwords_l0 : AC := (.seq (.reg [oB 10 .lss 9 8]) (.seq (.cond (.t 10) .skip (.exit 0)) (.seq (.block 1 (.seq (.reg [oA 11 (.idx 1 (.t 7) (.t 9)), oL 12 11, oM 6 12]) (.reg [oM 13 0, oM 14 6, oC 15 (.c (.fn 78 [])) [(.t 14)], oC 16 (.c (.fn 77 [])) [(.t 13), (.c (.str ⟨#[42]⟩)), (.t 15), (.c (.int .i64 1))], oM 0 16]))) (.reg [oZ 17 .add 9 1, oM 9 17]))))
def mwords_c : AC := (.seq (.reg [oA 4 (.mv (.c (.str ⟨#[]⟩)))]) (.seq (.seq (.reg [oM 7 1, oK 8 7, oI 9 0]) (.block 0 (.loop mwords_l0))) (.seq (.reg [oM 18 0, oM 4 18]) .ret)))
set_option maxRecDepth 100000 in
theorem mwords_get : getF Tryz.prog 47 285000 [] = some ("gavotte/models.words", 19, mwords_c, [(.tmp 4)]) := by kernel_rfl
def mhandler_c : AC := (.seq (.reg [oA 4 (.new 286004 2 (.agg [(.int .i64 0), .nils]))]) (.seq (.reg [oM 8 1, oC 9 (.c (.fn 81 [])) [(.t 8), (.c (.str ⟨#[59, 32]⟩))], oC 10 (.c (.fn 80 [])) [(.t 9), (.c (.str ⟨#[59, 32]⟩)), (.c (.str ⟨#[10]⟩))], oA 11 (.sbin .add (.t 10) (.c (.str ⟨#[10]⟩))), oC 12 (.c (.fn 79 [])) [(.t 11)], oM 7 12, oE 13 7 0, oE 14 7 1, oM 5 13, oM 6 14]) (.seq (.reg [oM 15 0, oM 16 5, oA 17 (.build [(.int .i64 0), .nils] [(0, (1, (.t 15))), (1, (1, (.t 16)))]), oN (.store 2 (.t 4) (.t 17))]) .ret)))
set_option maxRecDepth 100000 in
theorem mhandler_get : getF Tryz.prog 48 286000 [] = some ("gavotte/models.handler", 18, mhandler_c, [(.cell (some 2) 4)]) := by kernel_rfl
open Go.RowKit Go.Shelf
theorem toList_mk (l : List UInt8) : (⟨l.toArray⟩ : ByteArray).toList = l := by
 rw [Lib.toList_data]
theorem strEq_sv (a b : List UInt8) : strEq ⟨a.toArray⟩ ⟨b.toArray⟩ = decide (a = b) := by
 unfold strEq
 rw [toList_mk, toList_mk]
 by_cases h : a = b <;> simp [h]
def opsB : List UInt8 := [112, 117, 115, 104, 32, 112, 111, 112, 32, 99, 111, 112, 121, 32, 115, 119, 97, 112, 32, 108, 111, 97, 100, 32, 115, 116, 111, 114, 101, 32, 97, 114, 103, 32, 115, 101, 108, 102, 32, 97, 100, 100, 32, 115, 117, 98, 32, 109, 117, 108, 32, 100, 105, 118, 32, 109, 111, 100, 32, 110, 101, 103, 32, 101, 113, 32, 108, 101, 115, 115, 32, 97, 110, 100, 32, 111, 114, 32, 110, 111, 116, 32, 106, 117, 109, 112, 32, 122, 101, 114, 111, 32, 115, 101, 110, 100, 32, 97, 114, 109, 32, 99, 97, 108, 109, 32, 101, 110, 100]
def opsL : List (List UInt8) := [[112, 117, 115, 104], [112, 111, 112], [99, 111, 112, 121], [115, 119, 97, 112], [108, 111, 97, 100], [115, 116, 111, 114, 101], [97, 114, 103], [115, 101, 108, 102], [97, 100, 100], [115, 117, 98], [109, 117, 108], [100, 105, 118], [109, 111, 100], [110, 101, 103], [101, 113], [108, 101, 115, 115], [97, 110, 100], [111, 114], [110, 111, 116], [106, 117, 109, 112], [122, 101, 114, 111], [115, 101, 110, 100], [97, 114, 109], [99, 97, 108, 109], [101, 110, 100]]
theorem opsL_eq : Lib.fields opsB = opsL := by decide +kernel
theorem idxS_pc (l : List (List UInt8)) (s : List UInt8) (hl : l.length <= 1000) : PC Tryz.prog 201 [.lst 1 (l.map sv), sv s] (iv (idxB (fun x => decide (s = x)) l)) := by
 refine pc_of_get idxS_get (by simp) _ (by simp) _ ?_
 unfold idxS_c
 simp [sv]
 refine loopN (fun i S' => S'.t 0 = .lst 1 (l.map sv) /\ S'.t 1 = sv s /\ S'.t 7 = iv l.length /\ S'.t 8 = iv i /\ (∀ x ∈ l.take i, (decide (s = x)) = false)) l.length ?_ ?_
 . exact ⟨by simp, by simp [sv], by simp, by simp, by simp⟩
 . rintro i S' hi ⟨g0, g1, g7, g8, gp⟩
   by_cases hlt : i < l.length
   . have hw := wrap_succ i _ hlt (by omega)
     have hcs : ∀ x : List UInt8, (sv x).cells = [sv x] := fun _ => rfl
     have hp0 : decide (s = l[i]) = false \/ s = l[i] := by
       by_cases h : s = l[i]
       . exact .inr h
       . exact .inl (by simp [h])
     rcases hp0 with hp | hp
     . have hp' : s ≠ l[i] := by simpa using hp
       simp [idxS_l0, g0, g1, g7, g8, hlt, hcs, sv, strEq_sv, hp', hw]
       intro x hx
       rw [List.take_succ_eq_append_getElem hlt] at hx
       rcases List.mem_append.1 hx with q | q
       . simpa using gp x q
       . rw [List.mem_singleton.1 q]; exact hp'
     . simp [idxS_l0, g0, g1, g7, g8, hlt, hcs, sv, strEq_sv, <- hp]
       unfold idxB; rw [findIdx_at _ hlt gp (by simp [<- hp])]
   . have e1 : i = l.length := by omega
     subst e1
     rw [List.take_length] at gp
     simp [idxS_l0, g0, g1, g7, g8]
     unfold idxB; rw [findIdx_none _ gp]
def opIdx (s : List UInt8) : Int := idxB (fun x => decide (s = x)) opsL
theorem find_pc (s : List UInt8) : PC Tryz.prog 153 [sv s] (.tup [iv (opIdx s + 1), .bool (decide (0 <= opIdx s))]) := by
 refine pc_of_get ofind_get (by simp) _ (by simp) _ ?_
 unfold ofind_c
 have hf := fields_pc opsB (by decide) (by decide +kernel)
 rw [opsL_eq] at hf
 have hlo : -1 <= opIdx s /\ opIdx s <= 25 := by
   unfold opIdx idxB
   cases h : opsL.findIdx? (fun x => decide (s = x)) with
   | none => simp
   | some i =>
     rw [List.findIdx?_eq_some_iff_getElem] at h
     obtain ⟨h, _⟩ := h
     simp [opsL] at h
     simp; omega
 have hw : IntKind.i64.wrap (opIdx s + 1) = opIdx s + 1 := wrap_in _ (by omega) (by omega)
 simp [sv]
 refine call hf (by simp [sv, opsB]) ?_
 simp
 refine call (idxS_pc opsL s (by decide)) (by simp [sv]) ?_
 have e : idxB (fun x => decide (s = x)) opsL = opIdx s := rfl
 rw [e]
 simp [hw]
set_option maxRecDepth 100000 in
theorem number_pc (s : List UInt8) (n : Nat) (hn : n < 100) (hs : s.length <= 18) (h1 : Lib.atoi s = some (n : Int)) (h2 : Lib.decDigits n = s) : PC Tryz.prog 155 [sv s] (.tup [iv n, .bool true]) := by
 refine ⟨entersF 155 _ Tryz.func155 (by kernel_rfl) (by kernel_rfl), fun K w vs hK hG hsz hrel => ?_⟩
 obtain ⟨v0, rfl⟩ := args1 (by simpa using hsz)
 obtain rfl := rel_str (hrel 0 _ v0 rfl rfl)
 have ha : ∀ w, Calls Tryz.prog 203 #[.string ⟨s.toArray⟩] w fun e w' => e = .returned (.tuple #[.int .i64 n, .nilIface]) /\ ∃ t, w' = Lib.bytesWorld w (Tryz.atoiL_ren.t 5) t := fun w => by
   have h := Go.Proofs.Any.strconv_Atoi Tryz.atoiL ⟨s.toArray⟩ n hs h1 w
   exact h
 have hi : ∀ w, Calls Tryz.prog 78 #[.int .i64 n] w fun e w' => e = .returned (.string ⟨(Lib.decDigits n).toArray⟩) /\ w' = w := fun w => Go.Proofs.Any.strconv_Itoa_small Tryz.itoaL n hn w
 rw [h2] at hi
 have hq : (⟨s.toArray⟩ : ByteArray).toList = s := toList_mk s
 suffices h : Calls Tryz.prog 155 #[.string ⟨s.toArray⟩] w fun e w' => e = .returned (.tuple #[.int .i64 n, .bool true]) /\ Below w.heap.size w w' by
   refine h.mono ?_
   rintro e w' ⟨rfl, hb⟩
   refine ⟨_, rfl, hb, .tup _ _ rfl (fun j y v hy hv => ?_)⟩
   match j, hy, hv with
   | 0, hy, hv => cases hy; cases hv; exact .int _ _
   | 1, hy, hv => cases hy; cases hv; exact .bool _
   | j + 2, hy, _ => simp at hy
 go_enter Tryz.func155, Tryz.ntmps155
 go_wp2_with fail
 refine (ha _).mono ?_
 rintro e w' ⟨rfl, t, rfl⟩
 go_wp2_with fail
 refine (hi _).mono ?_
 rintro e w' ⟨rfl, rfl⟩
 go_wp2_with (simp only [hq])
 go_ret2
 exact ⟨rfl, rfl, rfl, rfl, by rw [Lib.bytesWorld_size]; omega, fun k hk => Lib.bytesWorld_at_old _ _ _ k hk⟩
def lineV (s : List UInt8) : Option Ins :=
 let c := Lib.cut s [32]
 let i := opIdx c.1
 if i < 0 then none
 else if c.2.2 = true then
   (if operandV (i + 1) = 0 then none else match Lib.atoi c.2.1 with
     | some n => if 0 <= n /\ n < 100 /\ c.2.1.length <= 18 /\ Lib.decDigits n.toNat = c.2.1 then some ⟨i + 1, n⟩ else none
     | none => none)
 else if operandV (i + 1) = 0 then some ⟨i + 1, 0⟩ else none
theorem line_pc (s : List UInt8) (hs : s.length <= 100000) (x : Ins) (h : lineV s = some x) : PC Tryz.prog 116 [sv s] (.tup [x.av, .bool true]) := by
 refine pc_of_get aline_get (by simp) _ (by simp) _ ?_
 unfold aline_c
 have hc := cut_pc s [32] (by omega)
 unfold lineV at h
 rcases hcut : Lib.cut s [32] with ⟨a, b, c⟩
 rw [hcut] at hc h
 simp only at hc h
 simp [sv]
 refine call hc (by simp [sv]) ?_
 simp [sv]
 refine call (find_pc a) (by simp [sv]) ?_
 split at h
 . cases h
 rename_i hi
 have hi' : 0 <= opIdx a := by omega
 have hop := operand_pc (opIdx a + 1)
 cases c with
 | true =>
   simp only [if_true] at h
   split at h
   . cases h
   rename_i ho
   split at h
   . rename_i n hn
     split at h
     . rename_i hq
       cases h
       obtain ⟨m, rfl⟩ : ∃ m : Nat, n = (m : Int) := ⟨n.toNat, by omega⟩
       simp [hi']
       refine call hop (by simp) ?_
       simp [ho]
       refine call (number_pc b m (by omega) hq.2.2.1 hn (by simpa using hq.2.2.2)) (by simp [sv]) ?_
       simp [Ins.av]
     . cases h
   . cases h
 | false =>
   simp at h
   obtain ⟨ho, rfl⟩ := h
   simp [hi']
   refine call hop (by simp) ?_
   simp [ho, Ins.av]
theorem words_pc (s : List UInt8) (n : Nat) (hn : n < 100) (hs : s.length < 1000000) (hlen : s.length + Lib.countB ⟨s.toArray⟩ ⟨#[42]⟩ * (Lib.decDigits n).length <= 140737488355328) : PC Tryz.prog 47 [sv s, .lst 1 [iv n]] (sv (Lib.replace s [42] (Lib.decDigits n) 1)) := by
 refine pc_of_get mwords_get (by simp) _ (by simp) _ ?_
 unfold mwords_c
 simp [sv]
 refine loopN (fun i S' => S'.t 0 = sv (if i = 0 then s else Lib.replace s [42] (Lib.decDigits n) 1) /\ S'.t 7 = .lst 1 [iv n] /\ S'.t 8 = iv 1 /\ S'.t 9 = iv i) 1 ?_ ?_
 . simp [sv]
 . rintro i S' hi ⟨g0, g7, g8, g9⟩
   by_cases h0 : i = 0
   . subst h0
     simp [mwords_l0, g0, g7, g8, g9]
     refine call (itoa_pc n hn) (by simp) ?_
     simp [sv]
     refine call (repl_pc s [42] (Lib.decDigits n) 1 (by omega) (by decide) hlen) (by simp [sv]) ?_
     simp [sv, g0, g7, g8, g9, wrap1]
   . have h1 : i = 1 := by omega
     subst h1
     simp [mwords_l0, g0, g7, g8, g9, sv]
inductive Ch : List UInt8 -> List Ins -> Prop
 | nil : Ch [] []
 | cons {s : List UInt8} {x : Ins} {xs : List Ins} (h0 : s ≠ []) (hl : s.length <= 100000) (h1 : (Lib.cut s [10]).2.2 = true) (h2 : lineV (Lib.cut s [10]).1 = some x) (h3 : (Lib.cut s [10]).1.length <= 100000) (h : Ch (Lib.cut s [10]).2.1 xs) : Ch s (x :: xs)
theorem parse_loop (s : List UInt8) (xs : List Ins) (h : Ch s xs) (hx : xs.length <= 1000) {S : St} {κ : Ex -> St -> Prop} {u : Dep κ} (g0 : S.t 0 = sv s) (g2 : S.t 2 = .nils)
   (hk : ∀ S', S'.tok = S.tok -> S.clk <= S'.clk -> (∀ n, n ≠ 284007 -> n ≠ 1000284030 -> n ≠ 1000284031 -> S'.blk n = S.blk n) -> MutIs S' 1000284031 2 (S'.t 2) (xs.map Ins.av) -> κ (.exit 0) S') : LoopG Tryz.prog aparse_l0 κ S u := by
 refine loopN (fun i S' => ∃ si, S'.t 0 = sv si /\ Ch si (xs.drop i) /\ S'.tok = S.tok /\ S.clk <= S'.clk /\ (∀ n, n ≠ 284007 -> n ≠ 1000284030 -> n ≠ 1000284031 -> S'.blk n = S.blk n) /\ MutIs S' 1000284031 2 (S'.t 2) ((xs.take i).map Ins.av)) xs.length ?_ ?_
 . exact ⟨s, g0, h, rfl, Nat.le_refl _, fun _ _ _ _ => rfl, .inl ⟨g2, by simp⟩⟩
 . rintro i S' hi ⟨si, g0, hc, gk, gc, gb, gM⟩
   by_cases hlt : i < xs.length
   . rw [List.drop_eq_getElem_cons hlt] at hc
     have ht : (xs.take (i + 1)).map Ins.av = (xs.take i).map Ins.av ++ [xs[i].av] := by rw [List.take_succ_eq_append_getElem hlt, List.map_append]; rfl
     cases hc with
     | cons h0 hl h1 h2 h3 h =>
       rcases hcut : Lib.cut si [10] with ⟨a, b, c⟩
       rw [hcut] at h1 h2 h3 h
       simp only at h1 h2 h3 h
       subst h1
       have hcp := cut_pc si [10] (by omega)
       rw [hcut] at hcp
       have hne : strEq ⟨si.toArray⟩ ⟨#[]⟩ = false := by
         have := strEq_sv si []
         rw [this]; simp [h0]
       have hlen : ((xs.take i).map Ins.av).length = i := by simp; omega
       obtain ⟨ys, hys⟩ : ∃ ys, ys = (xs.take i).map Ins.av := ⟨_, rfl⟩
       rw [<- hys] at gM ht hlen
       have hbd : (ys.length + 1) * 16 <= 140737488355328 := by omega
       simp [aparse_l0, g0, sv, hne]
       refine call hcp (by simp [sv]) ?_
       simp [sv]
       refine call (line_pc a h3 xs[i] h2) (by simp [sv]) ?_
       rcases gM with ⟨g2, hx0⟩ | ⟨s2, g2, hM⟩
       . rw [hx0] at ht
         simp [Ins.av, g2]
         rw [List.map_take] at ht
         refine ⟨hlt, h, gk, by omega, fun n a1 a2 a3 => ?_, .inr ⟨_, by rw [ht]; simp; rfl, by rw [ht]; simp [Ins.av]⟩⟩
         simp [a1, a2, a3]
         exact gb n a1 a2 a3
       . simp [Ins.av, g2, hM, hbd]
         rw [List.map_take] at ht
         refine ⟨hlt, h, gk, by omega, fun n a1 a2 a3 => ?_, .inr ⟨_, by rw [ht]; simp; rfl, by rw [ht]; simp [Ins.av]⟩⟩
         simp [a1, a2, a3]
         exact gb n a1 a2 a3
   . have e1 : i = xs.length := by omega
     subst e1
     rw [List.drop_length] at hc
     rw [List.take_length] at gM
     cases hc
     have he : strEq ⟨#[]⟩ ⟨#[]⟩ = true := by
       have := strEq_sv [] []
       rw [this]; simp
     simp [aparse_l0, g0, sv, he]
     exact hk _ gk (by simp only []; omega) gb (gM.at rfl)
theorem parse_pc (s : List UInt8) (xs : List Ins) (h : Ch s xs) (hx : xs.length <= 1000) : PC Tryz.prog 79 [sv s] (.tup [.lst 2 (xs.map Ins.av), iv 0]) := by
 refine pc_of_get aparse_get (by simp) _ (by simp) _ ?_
 unfold aparse_c
 simp
 refine parse_loop s xs h hx (by simp) (by simp) (fun S' _ _ _ hM => ?_)
 have o1 := hM.one
 have o2 := hM.cells
 simp [o1, o2]
 have hc := hM.co1 (blk := S'.blk) (by simp) rfl (by
   intro x hx
   obtain ⟨y, _, rfl⟩ := List.mem_map.1 hx
   simp [Ins.av])
 generalize S'.t 2 = v at hc hM
 rcases hM with ⟨rfl, _⟩ | ⟨st, rfl, _⟩ <;> exact hc
theorem parse_v (s : List UInt8) (xs : List Ins) (h : Ch s xs) (hx : xs.length <= 1000) {S : St} {k : AV -> St -> Prop} {u : Dep k}
   (hk : ∀ S' v, S'.t = S.t -> S'.tok = S.tok -> S.clk <= S'.clk -> (∀ n, n ≠ 284007 -> n ≠ 1000284030 -> n ≠ 1000284031 -> S'.blk n = S.blk n) -> MutIs S' 1000284031 2 v (xs.map Ins.av) -> k (.tup [v, iv 0]) S') :
   CallG Tryz.prog (.fn 79 []) [sv s] S k u := by
 refine callV aparse_get (by simp) (by simp) ?_
 unfold aparse_c
 simp
 refine parse_loop s xs h hx (by simp) (by simp) (fun S' q1 q2 q3 hM => ?_)
 have o1 := hM.one
 have o2 := hM.cells
 simp [o1, o2]
 exact hk _ _ rfl q1 (by simp at q2; simp only []; omega) q3 (hM.at rfl)
def hText (l : List (List UInt8)) : List UInt8 := Lib.replaceAll (Lib.join l [59, 32]) [59, 32] [10] ++ [10]
structure HOk (l : List (List UInt8)) (xs : List Ins) : Prop where
 l1 : 1 <= l.length
 l2 : l.length <= 1000
 l3 : (Lib.join l [59, 32]).length <= 100000
 l4 : (Lib.join l [59, 32]).length + Lib.countB ⟨(Lib.join l [59, 32]).toArray⟩ ⟨#[59, 32]⟩ * 1 <= 140737488355328
 l5 : (Lib.replaceAll (Lib.join l [59, 32]) [59, 32] [10]).length <= 100000
 ch : Ch (hText l) xs
 lx : xs.length <= 1000
theorem cat_sv (a b : List UInt8) : (⟨a.toArray⟩ : ByteArray) ++ ⟨b.toArray⟩ = ⟨(a ++ b).toArray⟩ := ByteArray.mk_append_mk a b
theorem mhandler_pc (args : Int) (l : List (List UInt8)) (xs : List Ins) (h : HOk l xs) : PC Tryz.prog 48 [iv args, .lst 1 (l.map sv)] (.agg [iv args, .lst 2 (xs.map Ins.av)]) := by
 refine pc_of_get mhandler_get (by simp) _ (by simp) _ ?_
 unfold mhandler_c
 simp
 refine call (join_pc l [59, 32] h.l1 h.l2 (by have := h.l3; omega)) (by simp [sv]) ?_
 simp
 refine call (replA_pc (Lib.join l [59, 32]) [59, 32] [10] (by have := h.l3; omega) (by decide) h.l4) (by simp [sv]) ?_
 have hs := h.l5
 have hsz : (⟨(Lib.replaceAll (Lib.join l [59, 32]) [59, 32] [10]).toArray⟩ : ByteArray).size + (⟨#[10]⟩ : ByteArray).size <= 9223372036854775807 := by
   have e1 : (⟨#[10]⟩ : ByteArray).size = 1 := rfl
   rw [size_ba, e1]
   omega
 have hct : (⟨(Lib.replaceAll (Lib.join l [59, 32]) [59, 32] [10]).toArray⟩ : ByteArray) ++ ⟨#[10]⟩ = ⟨(hText l).toArray⟩ := cat_sv (Lib.replaceAll (Lib.join l [59, 32]) [59, 32] [10]) [10]
 simp [sv]
 rw [if_pos hsz, hct]
 simp
 refine call (parse_pc (hText l) xs h.ch h.lx) (by simp [sv]) ?_
 simp
theorem mhandler_v (args : Int) (l : List (List UInt8)) (xs : List Ins) (h : HOk l xs) {S : St} {k : AV -> St -> Prop} {u : Dep k}
   (hk : ∀ S' v, S'.t = S.t -> S'.tok = S.tok -> S.clk <= S'.clk -> (∀ n, n ≠ 286004 -> n ≠ 284007 -> n ≠ 1000284030 -> n ≠ 1000284031 -> S'.blk n = S.blk n) -> MutIs S' 1000284031 2 v (xs.map Ins.av) -> k (.agg [iv args, v]) S') :
   CallG Tryz.prog (.fn 48 []) [iv args, .lst 1 (l.map sv)] S k u := by
 refine callV mhandler_get (by simp) (by simp) ?_
 unfold mhandler_c
 simp
 refine call (join_pc l [59, 32] h.l1 h.l2 (by have := h.l3; omega)) (by simp [sv]) ?_
 simp
 refine call (replA_pc (Lib.join l [59, 32]) [59, 32] [10] (by have := h.l3; omega) (by decide) h.l4) (by simp [sv]) ?_
 have hs := h.l5
 have hsz : (⟨(Lib.replaceAll (Lib.join l [59, 32]) [59, 32] [10]).toArray⟩ : ByteArray).size + (⟨#[10]⟩ : ByteArray).size <= 9223372036854775807 := by
   have e1 : (⟨#[10]⟩ : ByteArray).size = 1 := rfl
   rw [size_ba, e1]
   omega
 have hct : (⟨(Lib.replaceAll (Lib.join l [59, 32]) [59, 32] [10]).toArray⟩ : ByteArray) ++ ⟨#[10]⟩ = ⟨(hText l).toArray⟩ := cat_sv (Lib.replaceAll (Lib.join l [59, 32]) [59, 32] [10]) [10]
 simp [sv]
 rw [if_pos hsz, hct]
 simp
 refine parse_v (hText l) xs h.ch h.lx (fun S' v q1 q2 q3 q4 q5 => ?_)
 have b4 := q4 286004 (by simp) (by simp) (by simp)
 simp at b4
 have o1 := q5.one
 have o2 := q5.cells
 simp [q1, b4, o1, o2]
 refine hk _ v rfl (by simpa using q2) (by simp at q3; simp only []; omega) (fun n a1 a2 a3 a4 => ?_) (q5.at (by simp))
 simp [a1]
 rw [q4 n a2 a3 a4]
 simp [a1]
end Go.Gv

namespace Go.Gv
open Go.Proofs
open Go.Shelf
instance : DecidableEq Ins := fun a b => decidable_of_iff (a.op = b.op /\ a.a = b.a) (by cases a; cases b; simp)
def chB : Nat -> List UInt8 -> Option (List Ins)
 | 0, _ => none
 | f + 1, s => if s = [] then some [] else
   if (decide (s.length <= 100000) && (Lib.cut s [10]).2.2 && decide ((Lib.cut s [10]).1.length <= 100000)) = true then
     match lineV (Lib.cut s [10]).1 with
     | some x => (chB f (Lib.cut s [10]).2.1).map fun l => x :: l
     | none => none
   else none
theorem chB_ok : ∀ (f : Nat) (s : List UInt8) (xs : List Ins), chB f s = some xs -> Ch s xs
 | 0, _, _, h => by cases h
 | f + 1, s, xs, h => by
   unfold chB at h
   split at h
   . rename_i h0; cases h; subst h0; exact .nil
   . rename_i h0
     split at h
     . rename_i hc
       simp only [Bool.and_eq_true, decide_eq_true_eq] at hc
       split at h
       . rename_i x hx
         rw [Option.map_eq_some_iff] at h
         obtain ⟨l, hl, rfl⟩ := h
         exact .cons h0 hc.1.1 hc.1.2 hx hc.2 (chB_ok f _ _ hl)
       . cases h
     . cases h
def tOn : List UInt8 := [115, 101, 108, 102, 59, 32, 112, 117, 115, 104, 32, 49, 59, 32, 97, 100, 100, 59, 32, 112, 117, 115, 104, 32, 42, 59, 32, 109, 111, 100, 59, 32, 115, 101, 110, 100, 32, 49]
def tOn2 : List UInt8 := Lib.replace tOn [42] (Lib.decDigits 2) 1
def hl0 : List (List UInt8) := [[108, 111, 97, 100, 32, 48], tOn2]
def hl1 : List (List UInt8) := [[97, 114, 103, 32, 48, 59, 32, 108, 111, 97, 100, 32, 48, 59, 32, 101, 113, 59, 32, 122, 101, 114, 111, 32, 55, 59, 32, 112, 117, 115, 104, 32, 49, 59, 32, 115, 116, 111, 114, 101, 32, 49, 59, 32, 101, 110, 100, 59, 32, 108, 111, 97, 100, 32, 48, 59, 32, 97, 114, 103, 32, 48, 59, 32, 108, 101, 115, 115, 59, 32, 122, 101, 114, 111, 32, 49, 56, 59, 32, 97, 114, 103, 32, 48], tOn2]
def hl2 : List (List UInt8) := [[112, 117, 115, 104, 32, 49, 59, 32, 112, 111, 112, 59, 32, 112, 117, 115, 104, 32, 49]]
def xs0 : List Ins := [⟨5, 0⟩, ⟨8, 0⟩, ⟨1, 1⟩, ⟨9, 0⟩, ⟨1, 2⟩, ⟨13, 0⟩, ⟨22, 1⟩]
def xs1 : List Ins := [⟨7, 0⟩, ⟨5, 0⟩, ⟨15, 0⟩, ⟨21, 7⟩, ⟨1, 1⟩, ⟨6, 1⟩, ⟨25, 0⟩, ⟨5, 0⟩, ⟨7, 0⟩, ⟨16, 0⟩, ⟨21, 18⟩, ⟨7, 0⟩, ⟨8, 0⟩, ⟨1, 1⟩, ⟨9, 0⟩, ⟨1, 2⟩, ⟨13, 0⟩, ⟨22, 1⟩]
def xs2 : List Ins := [⟨1, 1⟩, ⟨2, 0⟩, ⟨1, 1⟩]
theorem dd2 : Lib.decDigits 2 = [50] := by unfold Lib.decDigits; decide
theorem tOn2_eq : tOn2 = [115, 101, 108, 102, 59, 32, 112, 117, 115, 104, 32, 49, 59, 32, 97, 100, 100, 59, 32, 112, 117, 115, 104, 32, 50, 59, 32, 109, 111, 100, 59, 32, 115, 101, 110, 100, 32, 49] := by unfold tOn2; rw [dd2]; decide +kernel
theorem hok0 : HOk hl0 xs0 where
 l1 := by decide
 l2 := by decide
 l3 := by unfold hl0; rw [tOn2_eq]; decide +kernel
 l4 := by unfold hl0; rw [tOn2_eq]; decide +kernel
 l5 := by unfold hl0; rw [tOn2_eq]; decide +kernel
 ch := chB_ok 100 _ _ (by unfold hl0; rw [tOn2_eq]; decide +kernel)
 lx := by decide
theorem hok1 : HOk hl1 xs1 where
 l1 := by decide
 l2 := by decide
 l3 := by unfold hl1; rw [tOn2_eq]; decide +kernel
 l4 := by unfold hl1; rw [tOn2_eq]; decide +kernel
 l5 := by unfold hl1; rw [tOn2_eq]; decide +kernel
 ch := chB_ok 100 _ _ (by unfold hl1; rw [tOn2_eq]; decide +kernel)
 lx := by decide
theorem hok2 : HOk hl2 xs2 where
 l1 := by decide
 l2 := by decide
 l3 := by decide +kernel
 l4 := by decide +kernel
 l5 := by decide +kernel
 ch := chB_ok 100 _ _ (by decide +kernel)
 lx := by decide
end Go.Gv

namespace Go.Gv
open Go.Proofs
def ringP : Prg := ⟨[⟨0, xs0⟩, ⟨1, xs1.take 7 ++ xs2 ++ xs1.drop 10⟩], [⟨[3, 0], 8, -1, false⟩, ⟨[4, 0], 8, -1, false⟩], [⟨0, 0, []⟩, ⟨1, 0, []⟩], 64⟩
def awC : Cfg := ⟨ringP, ⟨0, 0, 0, 0⟩, [[⟨31, 1⟩, ⟨31, 17⟩, ⟨9, 0⟩, ⟨1, 2⟩, ⟨16, 0⟩]], 6, 1000⟩
theorem aw_cok : COk awC where
 wc := by decide +kernel
 fl := by decide +kernel
 bu := by decide +kernel
 li := by decide +kernel
 im := by decide +kernel
 aa := by decide
 rg := by decide
 bo := by decide
 ba := by decide
theorem aw_tree : treeB awC awC.depth.toNat (startV awC.p) = true := by decide +kernel
def awRes (s : Sr) : Bool := !s.ended && (match s.found with | [f] => decide (f.watch = 0) && decide (f.path.length = 6) | _ => false)
theorem aw_res : awRes (exploreS awC) = true := by decide +kernel
end Go.Gv
