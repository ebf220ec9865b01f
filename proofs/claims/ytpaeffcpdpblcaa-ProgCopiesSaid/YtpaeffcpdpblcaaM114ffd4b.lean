/- Texts of this proof, one behind the other. What is proved, and on which conditions, stands ahead of each. -/
import Derived.Test.YtpaeffcpdpblcaaProg
import Derived.Test.YtpaeffcpdpblcaaM101756a0
import Derived.Test.YtpaeffcpdpblcaaM826ae8e

/- The law ProgCopies answers true. No condition. -/
set_option linter.unusedVariables false
set_option linter.unusedSimpArgs false
namespace Go.Gv
open Go.Proofs


theorem coL_of {R : AV → AV → Prop} : ∀ {xs ys : List AV}, xs.length = ys.length → (∀ (j : Nat) (x y : AV), xs[j]? = some x → ys[j]? = some y → R x y) → coL R xs ys
  | [], [], _, _ => trivial
  | [], _ :: _, h, _ => by simp at h
  | _ :: _, [], h, _ => by simp at h
  | x :: xs, y :: ys, h, hr => ⟨hr 0 x y rfl rfl, coL_of (by simpa using h) fun j a b ha hb => hr (j + 1) a b (by simpa using ha) (by simpa using hb)⟩
theorem MutIs.co {S : St} {nm sz d : Nat} {v : AV} {xs ys : List AV} (hs : sz ≠ 0) (h : MutIs S nm sz v xs) (hc : coL (elemR (dco S.blk d)) xs ys) : dco S.blk (d + 1) v (.lst sz ys) := by
  rcases h with ⟨rfl, rfl⟩ | ⟨st, rfl, hb⟩
  · cases ys with
    | nil => simp [dco]
    | cons y ys => exact hc.elim
  · refine ⟨rfl, xs, by simp [getB, hb, hs], by simp, ?_⟩
    rw [List.drop_zero, List.take_of_length_le (Nat.le_refl _)]
    exact hc
theorem Deep.co {α : Type} {S : St} {base isz nm sz : Nat} {cell : α → AV → AV} {inner : α → List AV} {av : α → AV} {xs : List α} {es : List AV} {v : AV} (h : Deep S base isz cell inner xs es) (hs : sz ≠ 0) (hv : MutIs S nm sz v es) (hc : ∀ (x : α) (w : AV) (j : Nat), MutIs S (base + j) isz w (inner x) → elemR (dco S.blk 1) (cell x w) (av x)) :
    dco S.blk 2 v (.lst sz (xs.map av)) := by
  refine hv.co hs (coL_of (by simp [h.1]) fun j a b ha hb => ?_)
  rw [List.getElem?_map] at hb
  obtain ⟨x, hx, rfl⟩ := Option.map_eq_some_iff.1 hb
  obtain ⟨w, h1, h2⟩ := h.2 j x hx
  rw [ha] at h1
  cases h1
  exact hc x w j h2
theorem ints_co (blk : Nat → Option Blk) (l : List Int) : coL (elemR (dco blk 0)) (l.map iv) (l.map iv) :=
  coL_of rfl fun j a b ha hb => by
    rw [ha] at hb; cases hb
    rw [List.getElem?_map] at ha
    obtain ⟨x, _, rfl⟩ := Option.map_eq_some_iff.1 ha
    simp [elemR, dco, co1]
theorem code_co (blk : Nat → Option Blk) (l : List Ins) : coL (elemR (dco blk 0)) (l.map Ins.av) (l.map Ins.av) :=
  coL_of rfl fun j a b ha hb => by
    rw [ha] at hb; cases hb
    rw [List.getElem?_map] at ha
    obtain ⟨x, _, rfl⟩ := Option.map_eq_some_iff.1 ha
    simp [elemR, dco, co1]
theorem CParts.co {S : St} {hs : List Hnd} {ats : List Actr} {bs : List Nt} {vh va vb : AV} {eh ea eb : List AV} (h : CParts S hs ats bs vh va vb eh ea eb) (f : Int) : elemR (dco S.blk 2) (.agg [vh, va, vb, iv f]) (Prg.av ⟨hs, ats, bs, f⟩) := by
  show coL (dco S.blk 2) [vh, va, vb, iv f] [.lst 2 (hs.map Hnd.av), .lst 4 (ats.map Actr.av), .lst 3 (bs.map Nt.av), iv f]
  refine ⟨h.dh.co (by simp) h.h fun x w j hw => ?_, h.da.co (by simp) h.a fun x w j hw => ?_, h.db.co (by simp) h.b fun x w j hw => ?_, ?_, trivial⟩
  · exact ⟨by simp [dco, co1], hw.co (by simp) (code_co _ _), trivial⟩
  · exact ⟨hw.co (by simp) (ints_co _ _), by simp [dco, co1], by simp [dco, co1], by simp [dco, co1], trivial⟩
  · exact ⟨by simp [dco, co1], by simp [dco, co1], hw.co (by simp) (ints_co _ _), trivial⟩
  · simp [dco, co1]
theorem fit_of_small {p : Prg} (h : smallV p) : fitP p := by
  obtain ⟨h1, h2, h3, h4, h5, h6⟩ := h
  exact ⟨by omega, by omega, by omega, fun x hx => Nat.le_trans (h4 x hx) (by omega), fun x hx => Nat.le_trans (h5 x hx) (by omega), fun x hx => Nat.le_trans (h6 x hx) (by omega)⟩
theorem QS.tt {S S' : St} {p : Prg} {s2 s5 s6 : Nat} {hs : List Hnd} {ats : List Actr} {bs : List Nt} (h : QS S p s2 s5 s6 hs ats bs) (h2 : S'.t 2 = S.t 2) (h5 : S'.t 5 = S.t 5) (h6 : S'.t 6 = S.t 6) (hb : S'.blk = S.blk) : QS S' p s2 s5 s6 hs ats bs := by
  obtain ⟨vh, va, vb, eh, ea, eb, q1, q2⟩ := h.q
  exact ⟨h2.trans h.t2, h5.trans h.t5, h6.trans h.t6, by rw [hb]; exact h.b2, by rw [hb]; exact h.b6, vh, va, vb, eh, ea, eb, by rw [hb]; exact q1, q2.at (by rw [hb]) (by rw [hb]) (by rw [hb]) (fun j _ => by rw [hb])⟩
theorem copies_pc (p : Prg) (how : Int) : PC Try.prog 3 [p.av, iv how] (.bool true) := by
  refine pc_of_get copies_get (by simp) _ (by simp) _ ?_
  unfold copies_c
  simp
  refine call (small_pc p) (by simp) ?_
  by_cases h1 : smallV p
  case neg =>
    simp [h1]
    refine call awake_pc (by simp) ?_
    simp
  have hp := okP_of_small p h1
  have hf := fit_of_small h1
  obtain ⟨q1, q2, q3, _⟩ := hf
  simp [h1]
  refine copies3 p (fit_of_small h1) 0 _ (by simp) (by simp) (fun S vh va vb eh ea eb ht t5 t6 hk hc b2 b5 b6 hP => ?_)
  have t2 : S.t 2 = .ptr 190002 0 4 0 0 := by rw [ht 2 (by simp) (by simp) (.inl (by simp))]; simp
  have o1 := hP.h.one
  have o3 := hP.a.one
  have o5 := hP.b.one
  clear ht hk hc
  have self : ∀ blk, elemR (dco blk 2) p.av p.av := fun blk => by
    show coL (dco blk 2) [.lst 2 (p.hs.map Hnd.av), .lst 4 (p.as.map Actr.av), .lst 3 (p.boot.map Nt.av), iv p.fuel] [.lst 2 (p.hs.map Hnd.av), .lst 4 (p.as.map Actr.av), .lst 3 (p.boot.map Nt.av), iv p.fuel]
    simp [dco, co1]
  simp [t2, t5, t6, b2, b5, b6, o1, o3, o5]
  refine callW (rsame_pc p p hp) 2 ⟨self _, hP.co p.fuel, trivial⟩ rfl ?_
  simp [t2, t5, t6, b2, b5, b6]
  refine call (rsame_pc p p hp) (by simp) ?_
  simp
  have hQ0 : QS S p 0 _ _ p.hs p.as p.boot := ⟨t2, t5, t6, b2, b6, vh, va, vb, eh, ea, eb, b5, hP⟩
  refine chgH p (fit_of_small h1) 0 _ _ p.as p.boot q2 (hQ0.tt (by simp) (by simp) (by simp) rfl) (by simp) (fun S1 hQ1 => ?_)
  simp
  refine chgA p (fit_of_small h1) 0 _ _ (p.hs.map chH) p.boot (by simpa using q1) (hQ1.tt (by simp) (by simp) (by simp) rfl) (by simp) (fun S2 hQ2 => ?_)
  simp
  refine chgN p (fit_of_small h1) 0 _ _ (p.hs.map chH) (p.as.map chA) (by simpa using q1) (by simpa using q2) (hQ2.tt (by simp) (by simp) (by simp) rfl) (by simp) (fun S3 hQ3 => ?_)
  clear hQ0 hQ1 hQ2 hP t2 t5 t6 b2 b5 b6 o1 o3 o5
  obtain ⟨t2, t5, t6, b2, b6, vh, va, vb, eh, ea, eb, b5, hP⟩ := hQ3
  have o1 := hP.h.one
  have o3 := hP.a.one
  have o5 := hP.b.one
  have hco := chP_eq p
  by_cases e1 : p.hs = []
  · by_cases e2 : p.as = []
    · by_cases e3 : p.boot = []
      · have hd : decide (p = chP p) = true := decide_eq_true (hco.2 ⟨e1, e2, e3⟩)
        simp [t2, t5, t6, b2, b5, b6, o1, o3, o5, e1, e2, e3]
        refine call (rsame_pc p p hp) (by simp [e1, e2, e3]) ?_
        simp [t2, t5, t6, b2, b5, b6, o1, o3, o5, e1, e2, e3]
        refine callW (same_pc p (chP p) hp) 2 ⟨by simp [e1, e2, e3, elemR, dco, coL, co1], hP.co p.fuel, trivial⟩ rfl ?_
        rw [hd]
        simp
        refine call awake_pc (by simp) ?_
        simp
      · have hd : decide (p = chP p) = false := decide_eq_false (fun q => e3 (hco.1 q).2.2)
        simp [t2, t5, t6, b2, b5, b6, o1, o3, o5, e1, e2, e3]
        refine call (rsame_pc p p hp) (by simp [e1, e2, e3]) ?_
        simp [t2, t5, t6, b2, b5, b6, o1, o3, o5, e1, e2, e3]
        refine callW (same_pc p (chP p) hp) 2 ⟨by simp [e1, e2, e3, elemR, dco, coL, co1], hP.co p.fuel, trivial⟩ rfl ?_
        rw [hd]
        simp
        refine call awake_pc (by simp) ?_
        simp
    · have hd : decide (p = chP p) = false := decide_eq_false (fun q => e2 (hco.1 q).2.1)
      simp [t2, t5, t6, b2, b5, b6, o1, o3, o5, e1, e2]
      refine call (rsame_pc p p hp) (by simp [e1, e2]) ?_
      simp [t2, t5, t6, b2, b5, b6, o1, o3, o5, e1, e2]
      refine callW (same_pc p (chP p) hp) 2 ⟨by simp [e1, e2, elemR, dco, coL, co1], hP.co p.fuel, trivial⟩ rfl ?_
      rw [hd]
      simp
      refine call awake_pc (by simp) ?_
      simp
  · have hd : decide (p = chP p) = false := decide_eq_false (fun q => e1 (hco.1 q).1)
    simp [t2, t5, t6, b2, b5, b6, o1, o3, o5, e1]
    refine call (rsame_pc p p hp) (by simp [e1]) ?_
    simp [t2, t5, t6, b2, b5, b6, o1, o3, o5, e1]
    refine callW (same_pc p (chP p) hp) 2 ⟨by simp [e1, elemR, dco, coL, co1], hP.co p.fuel, trivial⟩ rfl ?_
    rw [hd]
    simp
    refine call awake_pc (by simp) ?_
    simp

end Go.Gv
