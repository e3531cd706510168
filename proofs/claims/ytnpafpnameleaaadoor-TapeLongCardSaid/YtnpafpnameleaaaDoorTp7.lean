/- tape: awake, TapeLines -/
import Derived.Test.YtnpafpnameleaaaDoorTp6
namespace Go.Proofs.YtnpafpnameleaaaDoor.Mq
open Go Go.RowKit Go.Proofs

theorem StV.ext' {a b : StV} (h : a.k = b.k ∧ a.a = b.a ∧ a.b = b.b ∧ a.d = b.d) : a = b := by
  obtain ⟨a1, a2, a3, a4⟩ := a
  obtain ⟨b1, b2, b3, b4⟩ := b
  obtain ⟨rfl, rfl, rfl, rfl⟩ := h
  rfl
theorem heqS (a b : StV) : eqv a.cells b.cells = decide (a = b) := by
  rw [Bool.eq_iff_iff]
  simp only [eqv, veq, Bool.and_eq_true, decide_eq_true_eq, Bool.and_true, beq_iff_eq, bs]
  constructor
  · rintro ⟨h1, h2, h3, h4⟩
    exact StV.ext' ⟨h1, h2, h3, by simpa using h4⟩
  · rintro rfl; simp
def demoP : StV := ⟨5, -1, 0, [97]⟩
def demoL : StV := ⟨0, 0, 0, [27, 91, 109]⟩
theorem demoL_v : lineV demoL = .tuple #[.string (bs [102, 101, 101, 100, 32, 61, 49, 98, 53, 98, 54, 100]), .int .i64 0] := by
  rw [lineV_ok (by decide)]
  congr 3
theorem demoP_v : parseS [102, 105, 110, 100, 32, 45, 49, 32, 61, 54, 49] = (demoP, 0) := by
  have h : lineS demoP = [102, 105, 110, 100, 32, 45, 49, 32, 61, 54, 49] := by
    show Lib.join _ _ = _
    decide +kernel
  rw [← h]
  exact parse_line (by decide) (by decide) (by decide)
structure GT (w : World) : Prop where
  l : Gl w
  e : Ge w
  m : Gm w
theorem GT.ext {w w' : World} (h : GT w) (hx : Ext [] w w') : GT w' := ⟨h.l.ext hx, h.e.ext hx, h.m.ext hx⟩
theorem awake_c (w : World) (hg : GT w) : Calls Tryd.prog 8 [].toArray w (fun e w' => e = .returned (.bool true) ∧ Ext [] w w') := by
  refine calls (n := 29) Tryd.func8 rfl Tryd.ntmps8 rfl ?_
  refine CW.sub (H' := SH w [] []) ?_ (Sub.refl _) (fun x hx => SH.start' _ _ hx)
  refine CW.seq (CW.region ?_)
  refine RW.assign rfl rfl ?_
  refine RW.nil (EX.seq (CW.seq ?_))
  -- mq: region
  refine CW.region ?_
  refine RW.buildS bu23 rfl rfl rfl ?_
  refine RW.call (v := .tuple #[.string (bs [102, 101, 101, 100, 32, 61, 49, 98, 53, 98, 54, 100]), .int .i64 0]) rfl ca9 rfl (fun w' hw' => by have h := Line_c4 w' (hg.ext hw'.ext).l 0 0 0 [27, 91, 109] (by decide) (by decide) (by decide); rw [show lineV ⟨0, 0, 0, [27, 91, 109]⟩ = _ from demoL_v] at h; exact h) ?_
  refine RW.move rfl rfl ?_
  refine RW.extract rfl rfl rfl ?_
  refine RW.extract rfl rfl rfl ?_
  refine RW.assign rfl rfl ?_
  refine RW.assign rfl rfl ?_
  refine RW.nil (EX.seq (CW.seq ?_))
  -- mq: region
  refine CW.region ?_
  refine RW.call (v := fillV (demoP, 0)) rfl ca11 rfl (fun w' hw' => by have h := Parse_c w' (hg.ext hw'.ext).l (hg.ext hw'.ext).e (hg.ext hw'.ext).m [102, 105, 110, 100, 32, 45, 49, 32, 61, 54, 49] (by decide); rw [demoP_v] at h; exact h) ?_
  refine RW.move rfl rfl ?_
  refine RW.extract rfl rfl rfl ?_
  refine RW.extract rfl rfl rfl ?_
  refine RW.allocA ag23 rfl (fun g3 hg3 hf3 => ?_)
  refine RW.storeA ag23 rfl rfl (by first | exact Upd.head | exact Upd.tail Upd.head | exact Upd.tail (Upd.tail Upd.head) | exact Upd.tail (Upd.tail (Upd.tail Upd.head)) | exact Upd.tail (Upd.tail (Upd.tail (Upd.tail Upd.head))) | exact Upd.tail (Upd.tail (Upd.tail (Upd.tail (Upd.tail Upd.head)))) | exact Upd.tail (Upd.tail (Upd.tail (Upd.tail (Upd.tail (Upd.tail Upd.head)))))) (by first | rfl | exact Enc.len _ _) (by repeat (first | exact Ones.nil | exact Enc.ones _ _ | refine Ones.cons rfl ?_)) (by first | exact Nat.le_of_ble_eq_true rfl | (simp only [Enc.len]; decide)) ?_
  refine RW.assign rfl rfl ?_
  refine RW.nil (EX.seq (CW.seq ?_))
  -- mq: region
  refine CW.region ?_
  refine RW.move rfl rfl ?_
  refine RW.eqlI rfl rfl rfl ?_
  refine RW.move rfl rfl ?_
  refine RW.guardT rfl rfl rfl ?_
  refine RW.move rfl rfl ?_
  refine RW.guardT rfl rfl rfl ?_
  refine RW.eqlI rfl rfl rfl ?_
  refine RW.pickB rfl rfl rfl rfl ?_
  refine RW.move rfl rfl ?_
  refine RW.guardT rfl rfl rfl ?_
  refine RW.move rfl rfl ?_
  refine RW.guardT rfl rfl rfl ?_
  refine RW.eqlS rfl rfl rfl ?_
  refine RW.pickB rfl rfl rfl rfl ?_
  refine RW.move rfl rfl ?_
  refine RW.guardT rfl rfl (decide_eq_true rfl) ?_
  refine RW.loadBA ag23 rfl rfl (by first | exact Has.head | exact Has.tail Has.head | exact Has.tail (Has.tail Has.head) | exact Has.tail (Has.tail (Has.tail Has.head)) | exact Has.tail (Has.tail (Has.tail (Has.tail Has.head))) | exact Has.tail (Has.tail (Has.tail (Has.tail (Has.tail Has.head)))) | exact Has.tail (Has.tail (Has.tail (Has.tail (Has.tail (Has.tail Has.head)))))) rfl rfl ?_
  refine RW.guardT rfl rfl (decide_eq_true rfl) ?_
  refine RW.buildS bu23 rfl rfl rfl ?_
  refine RW.guardT rfl rfl (decide_eq_true rfl) ?_
  refine RW.eqlSt eq23 rfl rfl rfl (by kernel_rfl) ((heqS demoP demoP).trans (decide_eq_true rfl)) ?_
  refine RW.pickB rfl rfl (decide_eq_true rfl) rfl ?_
  refine RW.assign rfl rfl ?_
  refine RW.nil (EX.seq (CW.ret ?_))
  refine EX.fin1 Tryd.results8 rfl (fun wz hw => ?_)
  -- mq: done
  exact ⟨rfl, hw.ext⟩
theorem lineS_len {k : Nat} {a b : Int} {d : List UInt8} (h : okSt ⟨(k : Int), a, b, d⟩ = true) (ha : In64 a) (hb : In64 b) : (lineS ⟨(k : Int), a, b, d⟩).length ≤ 1000000 := by
  obtain ⟨h1, h2, h3, h4, h5⟩ := okSt4.1 h
  have hwm := wI_mem (k := k) (by omega) ha hb
  have hwl := wI_len k a b 2
  have hhx : (hexT d).length = 2 * d.length + 1 := by unfold hexT; rw [List.length_cons, hexP_len]
  unfold lineS
  cases hh : hasK k with
  | true =>
    rw [wI_t k a b d hh]
    refine Nat.le_trans (joinLe (B := 131073) _ (fun x hx => ?_)) ?_
    · rcases List.mem_append.1 hx with hx | hx
      · have := hwm x hx; omega
      · rw [List.mem_singleton.1 hx]; omega
    · rw [List.length_append]; show ((wI k a b 2).length + 1) * _ ≤ _; omega
  | false =>
    rw [wI_f k a b d hh]
    refine Nat.le_trans (joinLe (B := 21) _ hwm) ?_
    omega
theorem lines_c (w : World) (hg : GT w) (kk a b : Int) (d : List UInt8) (ha : In64 a) (hb : In64 b) :
    Calls Tryd.prog 3 [.agg #[.int .i64 kk, .int .i64 a, .int .i64 b, .string (bs d)]].toArray w (fun e w' => e = .returned (.bool true) ∧ Ext [] w w') := by
  refine calls (n := 59) Tryd.func3 rfl Tryd.ntmps3 rfl ?_
  refine CW.sub (H' := SH w [] []) ?_ (Sub.refl _) (fun x hx => SH.start' _ _ hx)
  refine CW.seq (CW.region ?_)
  refine RW.boxA rfl rfl (fun g1 hg1 hf1 => ?_)
  refine RW.assign rfl rfl ?_
  refine RW.nil (EX.seq (CW.seq (CW.seq ?_)))
  -- mq: region
  refine CW.region ?_
  refine RW.fieldB fl23x3 rfl rfl ?_
  refine RW.loadB1 sc9 rfl rfl (by first | exact Has.head | exact Has.tail Has.head | exact Has.tail (Has.tail Has.head) | exact Has.tail (Has.tail (Has.tail Has.head)) | exact Has.tail (Has.tail (Has.tail (Has.tail Has.head))) | exact Has.tail (Has.tail (Has.tail (Has.tail (Has.tail Has.head)))) | exact Has.tail (Has.tail (Has.tail (Has.tail (Has.tail (Has.tail Has.head)))))) rfl ?_
  refine RW.lenS Tryd.underlying9 rfl rfl ?_
  refine RW.gtr rfl rfl rfl ?_
  refine RW.nil (EX.seq ?_)
  -- mq: cond
  first | refine CW.condD rfl (fun h1 => ?_) (fun h1 => ?_) | refine CW.cond rfl (fun h1 => ?_) (fun h1 => ?_)
  · skip
    refine CW.seq (CW.region ?_)
    refine RW.call rfl ca8 rfl (fun w' hw' => awake_c w' (hg.ext hw'.ext)) ?_
    refine RW.assign rfl rfl ?_
    refine RW.nil (EX.seq (CW.ret (EX.seqR ?_)))
    refine EX.fin1 Tryd.results3 rfl (fun wz hw => ?_)
    -- mq: done
    exact ⟨rfl, hw.ext⟩
  · skip
    have hl : d.length ≤ 500 := by omega
    have hLi := fun w' (hw' : Ext [] w w') => Line_c4 w' (hg.ext hw').l kk a b d ha hb (by omega)
    have hRi := fun w' => refLine_c4 w' kk a b d ha hb
    by_cases hok : okSt ⟨kk, a, b, d⟩ = true
    · skip
      rw [lineV_ok hok] at hLi
      rw [rlineV_ok hok] at hRi
      obtain ⟨k, rfl⟩ : ∃ k : Nat, kk = (k : Int) := ⟨kk.toNat, by have := (okSt_iff.1 hok).1; dsimp only at this; omega⟩
      have hsl := lineS_len hok ha hb
      refine CW.skip (EX.seq (CW.seq (CW.region ?_)))
      refine RW.loadBA ag23 rfl rfl (by first | exact Has.head | exact Has.tail Has.head | exact Has.tail (Has.tail Has.head) | exact Has.tail (Has.tail (Has.tail Has.head)) | exact Has.tail (Has.tail (Has.tail (Has.tail Has.head))) | exact Has.tail (Has.tail (Has.tail (Has.tail (Has.tail Has.head)))) | exact Has.tail (Has.tail (Has.tail (Has.tail (Has.tail (Has.tail Has.head)))))) rfl rfl ?_
      refine RW.call rfl ca9 rfl (fun w' hw' => hLi w' hw'.ext) ?_
      refine RW.move rfl rfl ?_
      refine RW.extract rfl rfl rfl ?_
      refine RW.extract rfl rfl rfl ?_
      refine RW.assign rfl rfl ?_
      refine RW.assign rfl rfl ?_
      refine RW.nil (EX.seq (CW.seq ?_))
      -- mq: region
      refine CW.region ?_
      refine RW.loadBA ag23 rfl rfl (by first | exact Has.head | exact Has.tail Has.head | exact Has.tail (Has.tail Has.head) | exact Has.tail (Has.tail (Has.tail Has.head)) | exact Has.tail (Has.tail (Has.tail (Has.tail Has.head))) | exact Has.tail (Has.tail (Has.tail (Has.tail (Has.tail Has.head)))) | exact Has.tail (Has.tail (Has.tail (Has.tail (Has.tail (Has.tail Has.head)))))) rfl rfl ?_
      refine RW.call rfl ca10 rfl (fun w' hw' => hRi w') ?_
      refine RW.move rfl rfl ?_
      refine RW.extract rfl rfl rfl ?_
      refine RW.extract rfl rfl rfl ?_
      refine RW.assign rfl rfl ?_
      refine RW.assign rfl rfl ?_
      refine RW.nil (EX.seq (CW.seq (CW.seq ?_)))
      -- mq: region
      refine CW.region ?_
      refine RW.move rfl rfl ?_
      refine RW.not_ rfl rfl ?_
      refine RW.nil (EX.seq ?_)
      -- mq: cond
      refine CW.condF rfl (rfl) ?_
      refine CW.skip (EX.seq (CW.seq ?_))
      -- mq: region
      refine CW.region ?_
      refine RW.move rfl rfl ?_
      refine RW.call (v := fillV (⟨(k : Int), a, b, d⟩, 0)) rfl ca11 rfl (fun w' hw' => by have h := Parse_c w' (hg.ext hw'.ext).l (hg.ext hw'.ext).e (hg.ext hw'.ext).m _ hsl; rw [parse_line hok ha hb] at h; exact h) ?_
      refine RW.move rfl rfl ?_
      refine RW.extract rfl rfl rfl ?_
      refine RW.extract rfl rfl rfl ?_
      refine RW.allocA ag23 rfl (fun g7 hg7 hf7 => ?_)
      refine RW.storeA ag23 rfl rfl (by first | exact Upd.head | exact Upd.tail Upd.head | exact Upd.tail (Upd.tail Upd.head) | exact Upd.tail (Upd.tail (Upd.tail Upd.head)) | exact Upd.tail (Upd.tail (Upd.tail (Upd.tail Upd.head))) | exact Upd.tail (Upd.tail (Upd.tail (Upd.tail (Upd.tail Upd.head)))) | exact Upd.tail (Upd.tail (Upd.tail (Upd.tail (Upd.tail (Upd.tail Upd.head)))))) (by first | rfl | exact Enc.len _ _) (by repeat (first | exact Ones.nil | exact Enc.ones _ _ | refine Ones.cons rfl ?_)) (by first | exact Nat.le_of_ble_eq_true rfl | (simp only [Enc.len]; decide)) ?_
      refine RW.assign rfl rfl ?_
      refine RW.nil (EX.seq (CW.seq ?_))
      -- mq: region
      refine CW.region ?_
      refine RW.move rfl rfl ?_
      refine RW.eqlI rfl rfl rfl ?_
      refine RW.move rfl rfl ?_
      refine RW.guardT rfl rfl rfl ?_
      refine RW.move rfl rfl ?_
      refine RW.guardT rfl rfl rfl ?_
      refine RW.move rfl rfl ?_
      refine RW.guardT rfl rfl rfl ?_
      refine RW.eqlS rfl rfl rfl ?_
      refine RW.pickB rfl rfl rfl rfl ?_
      refine RW.move rfl rfl ?_
      refine RW.guardT rfl rfl (decide_eq_true rfl) ?_
      refine RW.move rfl rfl ?_
      refine RW.guardT rfl rfl (decide_eq_true rfl) ?_
      refine RW.eqlI rfl rfl rfl ?_
      refine RW.pickB rfl rfl (decide_eq_true rfl) rfl ?_
      refine RW.move rfl rfl ?_
      refine RW.guardT rfl rfl rfl ?_
      refine RW.loadBA ag23 rfl rfl (by first | exact Has.head | exact Has.tail Has.head | exact Has.tail (Has.tail Has.head) | exact Has.tail (Has.tail (Has.tail Has.head)) | exact Has.tail (Has.tail (Has.tail (Has.tail Has.head))) | exact Has.tail (Has.tail (Has.tail (Has.tail (Has.tail Has.head)))) | exact Has.tail (Has.tail (Has.tail (Has.tail (Has.tail (Has.tail Has.head)))))) rfl rfl ?_
      refine RW.guardT rfl rfl rfl ?_
      refine RW.loadBA ag23 rfl rfl (by first | exact Has.head | exact Has.tail Has.head | exact Has.tail (Has.tail Has.head) | exact Has.tail (Has.tail (Has.tail Has.head)) | exact Has.tail (Has.tail (Has.tail (Has.tail Has.head))) | exact Has.tail (Has.tail (Has.tail (Has.tail (Has.tail Has.head)))) | exact Has.tail (Has.tail (Has.tail (Has.tail (Has.tail (Has.tail Has.head)))))) rfl rfl ?_
      refine RW.guardT rfl rfl rfl ?_
      refine RW.eqlSt eq23 rfl rfl rfl (by kernel_rfl) (heqS ⟨(k : Int), a, b, d⟩ ⟨(k : Int), a, b, d⟩) ?_
      refine RW.pickB rfl rfl rfl rfl ?_
      refine RW.move rfl rfl ?_
      refine RW.guardT rfl rfl (decide_eq_true rfl) ?_
      refine RW.call rfl ca8 rfl (fun w' hw' => awake_c w' (hg.ext hw'.ext)) ?_
      refine RW.pickB rfl rfl (decide_eq_true rfl) rfl ?_
      refine RW.assign rfl rfl ?_
      refine RW.nil (EX.seq (CW.ret ?_))
      refine EX.fin1 Tryd.results3 rfl (fun wz hw => ?_)
      -- mq: done
      exact ⟨rfl, hw.ext⟩
    · skip
      rw [lineV_no hok] at hLi
      rw [rlineV_no hok] at hRi
      refine CW.skip (EX.seq (CW.seq (CW.region ?_)))
      refine RW.loadBA ag23 rfl rfl (by first | exact Has.head | exact Has.tail Has.head | exact Has.tail (Has.tail Has.head) | exact Has.tail (Has.tail (Has.tail Has.head)) | exact Has.tail (Has.tail (Has.tail (Has.tail Has.head))) | exact Has.tail (Has.tail (Has.tail (Has.tail (Has.tail Has.head)))) | exact Has.tail (Has.tail (Has.tail (Has.tail (Has.tail (Has.tail Has.head)))))) rfl rfl ?_
      refine RW.call rfl ca9 rfl (fun w' hw' => hLi w' hw'.ext) ?_
      refine RW.move rfl rfl ?_
      refine RW.extract rfl rfl rfl ?_
      refine RW.extract rfl rfl rfl ?_
      refine RW.assign rfl rfl ?_
      refine RW.assign rfl rfl ?_
      refine RW.nil (EX.seq (CW.seq ?_))
      -- mq: region
      refine CW.region ?_
      refine RW.loadBA ag23 rfl rfl (by first | exact Has.head | exact Has.tail Has.head | exact Has.tail (Has.tail Has.head) | exact Has.tail (Has.tail (Has.tail Has.head)) | exact Has.tail (Has.tail (Has.tail (Has.tail Has.head))) | exact Has.tail (Has.tail (Has.tail (Has.tail (Has.tail Has.head)))) | exact Has.tail (Has.tail (Has.tail (Has.tail (Has.tail (Has.tail Has.head)))))) rfl rfl ?_
      refine RW.call rfl ca10 rfl (fun w' hw' => hRi w') ?_
      refine RW.move rfl rfl ?_
      refine RW.extract rfl rfl rfl ?_
      refine RW.extract rfl rfl rfl ?_
      refine RW.assign rfl rfl ?_
      refine RW.assign rfl rfl ?_
      refine RW.nil (EX.seq (CW.seq (CW.seq ?_)))
      -- mq: region
      refine CW.region ?_
      refine RW.move rfl rfl ?_
      refine RW.not_ rfl rfl ?_
      refine RW.nil (EX.seq ?_)
      -- mq: cond
      refine CW.condT rfl (rfl) ?_
      refine CW.seq (CW.region ?_)
      refine RW.move rfl rfl ?_
      refine RW.eqlS rfl rfl rfl ?_
      refine RW.move rfl rfl ?_
      refine RW.guardT rfl rfl (decide_eq_true rfl) ?_
      refine RW.move rfl rfl ?_
      refine RW.guardT rfl rfl (decide_eq_true rfl) ?_
      refine RW.eqlI rfl rfl rfl ?_
      refine RW.pickB rfl rfl (decide_eq_true rfl) rfl ?_
      refine RW.move rfl rfl ?_
      refine RW.guardT rfl rfl rfl ?_
      refine RW.call rfl ca8 rfl (fun w' hw' => awake_c w' (hg.ext hw'.ext)) ?_
      refine RW.pickB rfl rfl rfl rfl ?_
      refine RW.assign rfl rfl ?_
      refine RW.nil (EX.seq (CW.ret (EX.seqR ?_)))
      refine EX.fin1 Tryd.results3 rfl (fun wz hw => ?_)
      -- mq: done
      exact ⟨rfl, hw.ext⟩
end Go.Proofs.YtnpafpnameleaaaDoor.Mq
