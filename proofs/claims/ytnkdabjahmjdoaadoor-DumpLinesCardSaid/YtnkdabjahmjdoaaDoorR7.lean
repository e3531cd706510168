/- dump: Parse: what it answers, in plain words -/
import Derived.Test.YtnkdabjahmjdoaaDoorR5
import Derived.Test.YtnkdabjahmjdoaaDoorR6
namespace Go.Proofs.YtnkdabjahmjdoaaDoor.Mq
open Go Go.RowKit Go.Proofs

def zeroB : BlkV := ⟨0, 0, 0, 0, 0, 0, 0, 0, 0, 0, 0, 0, 0, false, false, [], []⟩
def blockW : List UInt8 := [98, 108, 111, 99, 107]
def IsLine (s : List UInt8) (b : BlkV) : Prop := b.Wf ∧ toldB b = true ∧ lineF b = s
open Classical in
/-- a line's block, or why it is none -/
noncomputable def parseD (s : List UInt8) : BlkV × Nat := if (fullP 32 s).headD [] ≠ blockW then (zeroB, 7) else if h : ∃ b, IsLine s b then (Classical.choose h, 0) else (zeroB, 4)
theorem parseD_some {s : List UInt8} {b : BlkV} (h : IsLine s b) : parseD s = (b, 0) := by
  have hh : (fullP 32 s).headD [] = blockW := by rw [← h.2.2, words_line]; rfl
  unfold parseD
  rw [if_neg (fun e => e hh), dif_pos ⟨b, h⟩]
  have hc := Classical.choose_spec (⟨b, h⟩ : ∃ b, IsLine s b)
  rw [lineF_inj hc.2.1 h.2.1 (hc.2.2.trans h.2.2.symm)]
theorem parseD_no {s : List UInt8} (h : (fullP 32 s).headD [] ≠ blockW) : parseD s = (zeroB, 7) := by unfold parseD; rw [if_pos h]
theorem parseD_none {s : List UInt8} (h : (fullP 32 s).headD [] = blockW) (hn : ¬ ∃ b, IsLine s b) : parseD s = (zeroB, 4) := by unfold parseD; rw [if_neg (fun e => e h), dif_neg hn]
theorem isLine_words {s : List UInt8} {b : BlkV} (h : IsLine s b) : fullP 32 s = wordsF b := by rw [← h.2.2, words_line]
theorem len17 : ∀ {L : List (List UInt8)}, L.length = 17 → ∃ x0 x1 x2 x3 x4 y1 y2 y3 y4 y5 y6 y7 y8 y9 y10 x15 x16, L = [x0, x1, x2, x3, x4, y1, y2, y3, y4, y5, y6, y7, y8, y9, y10, x15, x16]
  | [x0, x1, x2, x3, x4, y1, y2, y3, y4, y5, y6, y7, y8, y9, y10, x15, x16], _ => ⟨_, _, _, _, _, _, _, _, _, _, _, _, _, _, _, _, _, rfl⟩
/-- what the readers have made of the words -/
def ReadB (x1 x2 x3 x4 : List UInt8) (ys : List (List UInt8)) (x15 x16 : List UInt8) (b : BlkV) (f : Bool) : Prop :=
  ∃ f1 f2 f4 f5 f6, IdR x1 false ((b.id : Int), f1) ∧ PhR x2 f1 (b.ph, f2) ∧ b.cut = decide (x3 = cutW true) ∧ CodeR x4 (f2 || (decide (x3 ≠ cutW true) && decide (x3 ≠ cutW false))) b.code b.has f4 ∧ PosR ys f4 b.pos f5 ∧ TextR x15 f5 (b.dir, f6) ∧ TextR x16 f6 (b.line, f)
theorem cutW_of {x : List UInt8} {c : Bool} (hc : c = decide (x = cutW true)) (h : (decide (x ≠ cutW true) && decide (x ≠ cutW false)) = false) : cutW c = x := by
  by_cases h1 : x = cutW true
  · rw [hc, decide_eq_true h1, h1]
  · rw [hc, decide_eq_false h1]
    rw [decide_eq_true h1, Bool.true_and] at h
    by_cases h2 : x = cutW false
    · exact h2.symm
    · rw [decide_eq_true h2] at h; cases h
theorem ReadB.bad {x1 x2 x3 x4 : List UInt8} {ys : List (List UInt8)} {x15 x16 : List UInt8} {b : BlkV} (h : ReadB x1 x2 x3 x4 ys x15 x16 b false) : wordsF b = blockW :: x1 :: x2 :: x3 :: x4 :: (ys ++ [x15, x16]) ∧ b.Wf := by
  obtain ⟨f1, f2, f4, f5, f6, h1, h2, h3, h4, h5, h6, h7⟩ := h
  obtain ⟨e6, w16⟩ := h7.bad rfl
  obtain ⟨e5, w15⟩ := h6.bad e6
  obtain ⟨e4, wp, np⟩ := h5.bad e5
  obtain ⟨e3, wc, nc⟩ := h4.bad e4
  have e2 : f2 = false := by cases f2 <;> first | rfl | cases e3
  rw [e2, Bool.false_or] at e3
  obtain ⟨e1, w2, _⟩ := h2.bad e2
  obtain ⟨_, n, hn, w1, hlt⟩ := h1.bad e1
  have hid : b.id = n := by omega
  refine ⟨?_, ⟨by omega, nc, np⟩⟩
  unfold wordsF
  rw [hid, w1, w2, cutW_of h3 e3, wc, wp, w15, w16]
  rfl
theorem ReadB.good {x1 x2 x3 x4 : List UInt8} {ys : List (List UInt8)} {x15 x16 : List UInt8} {b c : BlkV} {f : Bool} (h : ReadB x1 x2 x3 x4 ys x15 x16 b f) (hc : c.Wf) (ht : toldB c = true) (hw : wordsF c = blockW :: x1 :: x2 :: x3 :: x4 :: (ys ++ [x15, x16])) : b = c ∧ f = false := by
  obtain ⟨hph, _, _, _, hcode⟩ := toldB_iff.1 ht
  obtain ⟨f1, f2, f4, f5, f6, h1, h2, h3, h4, h5, h6, h7⟩ := h
  have e0 := (List.cons.inj hw).2
  have w1 := (List.cons.inj e0).1
  have e1 := (List.cons.inj e0).2
  have w2 := (List.cons.inj e1).1
  have e2 := (List.cons.inj e1).2
  have w3 := (List.cons.inj e2).1
  have e3 := (List.cons.inj e2).2
  have w4 := (List.cons.inj e3).1
  have e4 := (List.cons.inj e3).2
  have hlen : (posW c.pos).length = ys.length := by
    have := congrArg List.length e4
    simpa using this
  obtain ⟨wp, e5⟩ := List.append_inj e4 hlen
  have w15 := (List.cons.inj e5).1
  have w16 := (List.cons.inj (List.cons.inj e5).2).1
  obtain ⟨a1, g1⟩ := h1.good w1 hc.id
  obtain ⟨a2, g2⟩ := h2.good w2 hph
  have hcut : b.cut = c.cut := by
    rw [h3, ← w3]
    cases c.cut <;> decide
  have hfl : (decide (x3 ≠ cutW true) && decide (x3 ≠ cutW false)) = false := by
    rw [← w3]
    cases c.cut <;> decide
  obtain ⟨a4, a5, g4⟩ := h4.good w4 hc.code hcode
  obtain ⟨a6, g5⟩ := h5.good wp hc.pos
  obtain ⟨a7, g6⟩ := h6.good w15
  obtain ⟨a8, g7⟩ := h7.good w16
  have hff : f = false := by rw [g7, g6, g5, g4, hfl, g2, g1]; rfl
  refine ⟨?_, hff⟩
  have hp : [(b.r1, b.c1), (b.r2, b.c2), (b.r3, b.c3), (b.r4, b.c4), (b.r5, b.c5)] = [(c.r1, c.c1), (c.r2, c.c2), (c.r3, c.c3), (c.r4, c.c4), (c.r5, c.c5)] := a6
  simp only [List.cons.injEq, Prod.mk.injEq, and_true] at hp
  obtain ⟨⟨p1, p2⟩, ⟨p3, p4⟩, ⟨p5, p6⟩, ⟨p7, p8⟩, p9, p10⟩ := hp
  exact BlkV.ext' ⟨⟨by omega, a2, p1, p2, p3, p4, p5, p6, p7⟩, p8, p9, p10, a4, a5, hcut, a7, a8⟩
/-- the answer, off what was read -/
theorem parseD_read {s : List UInt8} {x1 x2 x3 x4 : List UInt8} {ys : List (List UInt8)} {x15 x16 : List UInt8} {b : BlkV} {f : Bool} (hs : fullP 32 s = blockW :: x1 :: x2 :: x3 :: x4 :: (ys ++ [x15, x16])) (h : ReadB x1 x2 x3 x4 ys x15 x16 b f) :
    parseD s = if f = false ∧ toldB b = true then (b, 0) else (zeroB, 4) := by
  by_cases hf : f = false ∧ toldB b = true
  · rw [if_pos hf]
    obtain ⟨rfl, ht⟩ := hf
    obtain ⟨hw, hwf⟩ := h.bad
    refine parseD_some ⟨hwf, ht, ?_⟩
    rw [lineF, hw, ← hs, join_full]
  · rw [if_neg hf]
    refine parseD_none (by rw [hs]; rfl) ?_
    rintro ⟨c, hc⟩
    obtain ⟨e1, e2⟩ := h.good hc.1 hc.2.1 ((isLine_words hc).symm.trans hs)
    exact hf ⟨e2, by rw [e1]; exact hc.2.1⟩
theorem parseD_len {s : List UInt8} (hh : (fullP 32 s).headD [] = blockW) (h : (fullP 32 s).length ≠ 17) : parseD s = (zeroB, 4) :=
  parseD_none hh fun ⟨b, hb⟩ => h (by rw [isLine_words hb]; rfl)
end Go.Proofs.YtnkdabjahmjdoaaDoor.Mq
