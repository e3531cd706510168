/- dump: the reference's Line -/
import Derived.Test.YtnkdabjahmjdoaaDoorD6
namespace Go.Proofs.YtnkdabjahmjdoaaDoor.Mq
open Go Go.RowKit Go.Proofs

def lf1 (b : BlkV) : List UInt8 := [98, 108, 111, 99, 107, 32] ++ Lib.decDigits b.id ++ [32] ++ phaseW b.ph
def lf2 (b : BlkV) : List UInt8 := lf1 b ++ (if b.cut = true then [32, 99, 117, 116, 32] else [32, 119, 104, 111, 108, 101, 32])
def lf3 (b : BlkV) : List UInt8 := lf2 b ++ codeW b.has b.code
def posT (l : List (Int × Int)) : List UInt8 := l.flatMap (fun p => [32] ++ Lib.itoa p.1 ++ [32] ++ Lib.itoa p.2)
theorem phaseW_le (n : Int) : (phaseW n).length ≤ 8 := by unfold phaseW; repeat (first | decide | split)
theorem codeW_le {b : BlkV} (hb : b.Wf) : (codeW b.has b.code).length ≤ 21 := by
  unfold codeW; split
  · exact itoa_len hb.code
  · decide
theorem lf1_le {b : BlkV} (hb : b.Wf) : (lf1 b).length ≤ 40 := by
  have h1 := dec_len20 hb.id
  have h2 := phaseW_le b.ph
  simp only [lf1, List.length_append, List.length_cons, List.length_nil]; omega
theorem lf2_le {b : BlkV} (hb : b.Wf) : (lf2 b).length ≤ 50 := by
  have h1 := lf1_le hb
  unfold lf2
  rw [List.length_append]
  split <;> simp <;> omega
theorem lf3_le {b : BlkV} (hb : b.Wf) : (lf3 b).length ≤ 80 := by
  have h1 := lf2_le hb
  have h2 := codeW_le hb
  unfold lf3
  rw [List.length_append]; omega
theorem posT_take {b : BlkV} {k : Nat} {p : Int × Int} (h : b.pos[k]? = some p) : posT (b.pos.take (k + 1)) = posT (b.pos.take k) ++ ([32] ++ Lib.itoa p.1 ++ [32] ++ Lib.itoa p.2) := by
  rw [List.take_add_one, h]; simp [posT]
theorem posT_le {b : BlkV} (hb : b.Wf) (k : Nat) : (posT (b.pos.take k)).length ≤ 44 * k := by
  induction k with
  | zero => simp [posT]
  | succ k ih =>
    cases hk : b.pos[k]? with
    | none =>
      rw [List.take_add_one, hk]
      simp only [Option.toList_none, List.append_nil]
      omega
    | some p =>
      rw [posT_take hk]
      have hp := hb.pos p (List.mem_of_getElem? hk)
      have h1 := itoa_len hp.1
      have h2 := itoa_len hp.2
      simp only [List.length_append, List.length_cons, List.length_nil]
      omega
theorem lineF_eq (b : BlkV) : lineF b = lf3 b ++ posT b.pos ++ [32] ++ hexT b.dir ++ [32] ++ hexT b.line := by
  show Lib.join [[98, 108, 111, 99, 107], Lib.decDigits b.id, phaseW b.ph, cutW b.cut, codeW b.has b.code, Lib.itoa b.r1, Lib.itoa b.c1, Lib.itoa b.r2, Lib.itoa b.c2, Lib.itoa b.r3, Lib.itoa b.c3, Lib.itoa b.r4, Lib.itoa b.c4, Lib.itoa b.r5, Lib.itoa b.c5, hexT b.dir, hexT b.line] [32] = _
  have e : posT b.pos = [32] ++ Lib.itoa b.r1 ++ [32] ++ Lib.itoa b.c1 ++ ([32] ++ Lib.itoa b.r2 ++ [32] ++ Lib.itoa b.c2) ++ ([32] ++ Lib.itoa b.r3 ++ [32] ++ Lib.itoa b.c3) ++ ([32] ++ Lib.itoa b.r4 ++ [32] ++ Lib.itoa b.c4) ++ ([32] ++ Lib.itoa b.r5 ++ [32] ++ Lib.itoa b.c5) := by simp [posT, BlkV.pos]
  simp only [joinTwo, Lib.join_one]
  rw [e]
  unfold lf3 lf2 lf1 cutW
  split <;> simp
theorem refLine31_c (w : World) (b : BlkV) (hb : b.Wf) (ht : toldB b = true) :
    Calls Tryd.prog 18 [.agg b.cells.toArray].toArray w (fun e w' => e = .returned (.string (bs (lineF b))) ∧ Ext [] w w') := by
  obtain ⟨hph, hpos, hdl, hll, hcode⟩ := toldB_iff.1 ht
  have hd := dec_len20 hb.id
  have hc := itoa_len hb.code
  have h1 := lf1_le hb
  have h2 := lf2_le hb
  have h3 := lf3_le hb
  obtain ⟨q, hq⟩ : ∃ q : Nat, b.ph = q := ⟨b.ph.toNat, by omega⟩
  have hat : phasesL[q]? = some (phaseW b.ph) := by rw [hq]; exact phasesL_at (by omega)
  have hpl := phaseW_le b.ph
  refine calls (n := 68) Tryd.func18 rfl Tryd.ntmps18 rfl ?_
  refine CW.sub (H' := SH w [] []) ?_ (Sub.refl _) (fun x hx => SH.start' _ _ hx)
  refine CW.seq (CW.region ?_)
  refine RW.boxA rfl rfl (fun g1 hg1 hf1 => ?_)
  refine RW.assign rfl rfl ?_
  refine RW.nil (EX.seq (CW.seq ?_))
  -- mq: region
  refine CW.drawU [0, 1, 6, 7] 3 [[(2, false, [3, 4]), (5, false, [8]), (9, false, [10, 11])]] (Ch [blk g1 b.cells 26]) mixed (by kernel_rfl) (fun _ hw => hw.drew) (fun _ h => (by first | trivial | exact h | exact h.ch | exact (h.rem Rem.head).ch | exact ((h.rem Rem.head).rem Rem.head).ch | exact (((h.rem Rem.head).rem Rem.head).rem Rem.head).ch)) ?_
  refine QuP.cons rfl (fun wq hq => (RW.fieldB fl26x0 rfl rfl RW.jn)) ?_
  refine QuP.cons rfl (fun wq hq => (RW.load1 sc22 rfl rfl (fun w1 e1 => by subst e1; exact hq.blk_cell (by first | exact Has.head | exact Has.tail Has.head | exact Has.tail (Has.tail Has.head) | exact Has.tail (Has.tail (Has.tail Has.head)) | exact Has.tail (Has.tail (Has.tail (Has.tail Has.head))) | exact Has.tail (Has.tail (Has.tail (Has.tail (Has.tail Has.head)))) | exact Has.tail (Has.tail (Has.tail (Has.tail (Has.tail (Has.tail Has.head)))))) rfl) RW.jn)) ?_
  refine QuP.cons rfl (fun wq hq => (RW.fieldB fl26x1 rfl rfl RW.jn)) ?_
  refine QuP.cons rfl (fun wq hq => (RW.load1 sc3 rfl rfl (fun w1 e1 => by subst e1; exact hq.blk_cell (by first | exact Has.head | exact Has.tail Has.head | exact Has.tail (Has.tail Has.head) | exact Has.tail (Has.tail (Has.tail Has.head)) | exact Has.tail (Has.tail (Has.tail (Has.tail Has.head))) | exact Has.tail (Has.tail (Has.tail (Has.tail (Has.tail Has.head)))) | exact Has.tail (Has.tail (Has.tail (Has.tail (Has.tail (Has.tail Has.head)))))) rfl) RW.jn)) ?_
  refine QuP.nil ?_
  refine UW.step [_] rfl (List.forall_mem_cons.2 ⟨?_, by simp⟩)
  refine RW.call rfl ca25 rfl (fun w' _ => refId_c b.id w' b.id (Nat.le_refl _) hb.id) ?_
  refine RW.st (fun _ => True) (fun _ h => .inr (by first | trivial | exact h | exact h.ch | exact (h.rem Rem.head).ch | exact ((h.rem Rem.head).rem Rem.head).ch | exact (((h.rem Rem.head).rem Rem.head).rem Rem.head).ch)) (fun _ h => trivial) ?_
  refine QuP.cons rfl (fun wq hq => (RW.catS rfl rfl rfl (by first | omega | (simp only [List.length_append, List.length_cons, List.length_nil]; omega)) RW.jn)) ?_
  refine QuP.cons rfl (fun wq hq => (RW.catS rfl rfl rfl (by first | omega | (simp only [List.length_append, List.length_cons, List.length_nil]; omega)) RW.jn)) ?_
  refine QuP.nil ?_
  refine UW.step [_] rfl (List.forall_mem_cons.2 ⟨?_, by simp⟩)
  -- mq: op 5: ('Op.call', ('Call.mk', ('Callee.value', ('Operand.func', '14')), ('arr',), ('arr',))) -> slot 11 ("ref.go:40")
  refine RW.callK rfl ca14 rfl (fun w' _ => phases_c w') (fun w0 w1 A9 n9 c9 hw0 he01 hw1 hlt9 hrd9 => ?_)
  have hn9 : n9 = 5 := hrd9.len.symm
  have hx1 : Ext [] w w1 := hw0.ext.trans0 he01
  have hcv := hw0.cov
  obtain ⟨ad, hA, had, hcell⟩ := hrd9.at_ hat
  refine RW.st (fun _ => True) (fun _ h => .inr ⟨.inr (by first | trivial | exact h | exact h.ch | exact (h.rem Rem.head).ch | exact ((h.rem Rem.head).rem Rem.head).ch | exact (((h.rem Rem.head).rem Rem.head).rem Rem.head).ch), trivial⟩) (fun _ h => trivial) ?_
  refine QuP.cons rfl (fun wq hq => (RW.ixAddr (q := q) sl33 rfl rfl rfl (by first | rfl | assumption) (by omega) (by omega) RW.jn)) ?_
  refine QuP.nil ?_
  refine UW.step [_] rfl (List.forall_mem_cons.2 ⟨?_, by simp⟩)
  -- mq: op 9: ('Op.load', '9', ('Operand.tmp', '14')) -> slot 15 ("ref.go:40")
  refine RW.load1 sc9 rfl rfl (fun w' hw' => hw'.base_cell (hcell 0 _ rfl) (fun hk2 => by have := hlt9 _ hk2; have : w0.heap.size ≤ ad.block := had; simp only [block_add] at *; omega)) ?_
  refine RW.st (fun _ => True) (fun _ h => .inr ⟨.inr ⟨.inr (by first | trivial | exact h | exact h.ch | exact (h.rem Rem.head).ch | exact ((h.rem Rem.head).rem Rem.head).ch | exact (((h.rem Rem.head).rem Rem.head).rem Rem.head).ch), trivial⟩, trivial⟩) (fun _ h => trivial) ?_
  refine QuP.cons rfl (fun wq hq => (RW.catS rfl rfl rfl (by first | omega | (simp only [List.length_append, List.length_cons, List.length_nil]; omega)) RW.jn)) ?_
  refine QuP.cons rfl (fun wq hq => (RW.assign rfl rfl RW.jn)) ?_
  refine QuP.nil ?_
  refine UW.nil (EX.seq (CW.seq ?_))
  -- mq: seq
  refine CW.join ([(1, .pointer (some ⟨g1, 0, none⟩)), (3, .string (bs (lf2 b)))]) (SH w1 (feet [blk g1 b.cells 26]) [blk g1 b.cells 26]) ?_ ?_
  · skip
    refine CW.seq (CW.region ?_)
    refine RW.fieldB fl26x9 rfl rfl ?_
    refine RW.loadB1 sc4 rfl rfl (by first | exact Has.head | exact Has.tail Has.head | exact Has.tail (Has.tail Has.head) | exact Has.tail (Has.tail (Has.tail Has.head)) | exact Has.tail (Has.tail (Has.tail (Has.tail Has.head))) | exact Has.tail (Has.tail (Has.tail (Has.tail (Has.tail Has.head)))) | exact Has.tail (Has.tail (Has.tail (Has.tail (Has.tail (Has.tail Has.head)))))) rfl ?_
    refine RW.nil (EX.seq ?_)
    -- mq: cond
    first | refine CW.condD rfl (fun h4 => ?_) (fun h4 => ?_) | refine CW.cond rfl (fun h4 => ?_) (fun h4 => ?_)
    · skip
      rw [lf2, if_pos h4]
      refine CW.region ?_
      refine RW.move rfl rfl ?_
      refine RW.catS rfl rfl rfl (by first | omega | (simp only [List.length_append, List.length_cons, List.length_nil]; omega)) ?_
      refine RW.assign rfl rfl ?_
      refine RW.nil ?_
      -- mq: joinend
      exact EX.jn (by repeat (first | exact Sub.nil | refine Sub.cons (by rfl) ?_)) (fun _ h => h)
    · skip
      rw [lf2, if_neg (by simp [h4])]
      refine CW.region ?_
      refine RW.move rfl rfl ?_
      refine RW.catS rfl rfl rfl (by first | omega | (simp only [List.length_append, List.length_cons, List.length_nil]; omega)) ?_
      refine RW.assign rfl rfl ?_
      refine RW.nil ?_
      -- mq: joinend
      exact EX.jn (by repeat (first | exact Sub.nil | refine Sub.cons (by rfl) ?_)) (fun _ h => h)
  · skip
    refine EX.seq (CW.seq ?_)
    -- mq: seq
    refine CW.join ([(1, .pointer (some ⟨g1, 0, none⟩)), (3, .string (bs (lf3 b)))]) (SH w1 (feet [blk g1 b.cells 26]) [blk g1 b.cells 26]) ?_ ?_
    · skip
      refine CW.seq (CW.region ?_)
      refine RW.fieldB fl26x8 rfl rfl ?_
      refine RW.loadB1 sc4 rfl rfl (by first | exact Has.head | exact Has.tail Has.head | exact Has.tail (Has.tail Has.head) | exact Has.tail (Has.tail (Has.tail Has.head)) | exact Has.tail (Has.tail (Has.tail (Has.tail Has.head))) | exact Has.tail (Has.tail (Has.tail (Has.tail (Has.tail Has.head)))) | exact Has.tail (Has.tail (Has.tail (Has.tail (Has.tail (Has.tail Has.head)))))) rfl ?_
      refine RW.nil (EX.seq ?_)
      -- mq: cond
      first | refine CW.condD rfl (fun h5 => ?_) (fun h5 => ?_) | refine CW.cond rfl (fun h5 => ?_) (fun h5 => ?_)
      · skip
        rw [lf3, codeW, if_pos h5]
        refine CW.region ?_
        refine RW.move rfl rfl ?_
        refine RW.fieldB fl26x7 rfl rfl ?_
        refine RW.loadB1 sc3 rfl rfl (by first | exact Has.head | exact Has.tail Has.head | exact Has.tail (Has.tail Has.head) | exact Has.tail (Has.tail (Has.tail Has.head)) | exact Has.tail (Has.tail (Has.tail (Has.tail Has.head))) | exact Has.tail (Has.tail (Has.tail (Has.tail (Has.tail Has.head)))) | exact Has.tail (Has.tail (Has.tail (Has.tail (Has.tail (Has.tail Has.head)))))) rfl ?_
        refine RW.call rfl ca26 rfl (fun w' _ => refNumber_c w' b.code hb.code) ?_
        refine RW.catS rfl rfl rfl (by first | omega | (simp only [List.length_append, List.length_cons, List.length_nil]; omega)) ?_
        refine RW.assign rfl rfl ?_
        refine RW.nil ?_
        -- mq: joinend
        exact EX.jn (by repeat (first | exact Sub.nil | refine Sub.cons (by rfl) ?_)) (fun _ h => h)
      · skip
        rw [lf3, codeW, if_neg (by simp [h5])]
        refine CW.region ?_
        refine RW.move rfl rfl ?_
        refine RW.catS rfl rfl rfl (by first | omega | (simp only [List.length_append, List.length_cons, List.length_nil]; omega)) ?_
        refine RW.assign rfl rfl ?_
        refine RW.nil ?_
        -- mq: joinend
        exact EX.jn (by repeat (first | exact Sub.nil | refine Sub.cons (by rfl) ?_)) (fun _ h => h)
    · skip
      refine EX.seq (CW.seq ?_)
      -- mq: region
      refine CW.region ?_
      refine RW.loadBA ag26 rfl rfl (by first | exact Has.head | exact Has.tail Has.head | exact Has.tail (Has.tail Has.head) | exact Has.tail (Has.tail (Has.tail Has.head)) | exact Has.tail (Has.tail (Has.tail (Has.tail Has.head))) | exact Has.tail (Has.tail (Has.tail (Has.tail (Has.tail Has.head)))) | exact Has.tail (Has.tail (Has.tail (Has.tail (Has.tail (Has.tail Has.head)))))) rfl rfl ?_
      -- mq: at
      refine RW.callK rfl ca31 rfl (fun w' _ => refPlaces_c w' b) (fun w2 w3 A8 n8 c8 hw2 he23 hw3 hlt8 hrd8 => ?_)
      have hn8 : n8 = 5 := hrd8.len.symm
      have hx3 : Ext [] w w3 := (hw2.unbase hx1 hcv).ext.trans0 he23
      refine RW.assign rfl rfl ?_
      refine RW.nil (EX.seq (CW.seq (CW.seq (CW.region ?_))))
      refine RW.assign rfl rfl ?_
      refine RW.nil (EX.seq (CW.block ?_))
      -- mq: loop
      refine CW.loop (ι := Nat) (fun k => [(1, .pointer (some ⟨g1, 0, none⟩)), (3, .string (bs (lf3 b ++ posT (b.pos.take k)))), (4, .slice A8 n8 c8), (5, .int .i64 (k : Int))]) (fun _ => SH w3 (feet [blk g1 b.cells 26]) [blk g1 b.cells 26]) (fun k => k ≤ 5) (fun k => 5 - k) ?_ ?_
      · refine fun w' hw' => ⟨0, Nat.zero_le _, ?_, hw'⟩
        rw [show lf3 b ++ posT (b.pos.take 0) = lf3 b by simp [posT]]
        exact (by repeat (first | exact Sub.nil | refine Sub.cons (by rfl) ?_))
      · intro k hk
        have hpk := posT_le hb k
        refine CW.seq (CW.seq (CW.region ?_))
        refine RW.move rfl rfl ?_
        refine RW.move rfl rfl ?_
        refine RW.lenSl Tryd.underlying61 rfl rfl ?_
        refine RW.lss rfl rfl rfl ?_
        refine RW.nil (EX.seq ?_)
        -- mq: cond
        first | refine CW.condD rfl (fun hlt => ?_) (fun hlt => ?_) | refine CW.cond rfl (fun hlt => ?_) (fun hlt => ?_)
        · skip
          obtain ⟨⟨pr, pc⟩, hp⟩ : ∃ p, b.pos[k]? = some p := ⟨b.pos[k]'(by show k < 5; omega), List.getElem?_eq_getElem _⟩
          have hpr := hpos _ (List.mem_of_getElem? hp)
          simp only [rightP, decide_eq_true_eq] at hpr
          obtain ⟨mr, rfl⟩ : ∃ m : Nat, pr = m := ⟨pr.toNat, by omega⟩
          obtain ⟨mc, rfl⟩ : ∃ m : Nat, pc = m := ⟨pc.toNat, by omega⟩
          have hpt := posT_take hp
          have hl1 := dec_len20 (u := mr) (by omega)
          have hl2 := dec_len20 (u := mc) (by omega)
          rw [Lib.itoa_nonneg, Lib.itoa_nonneg] at hpt
          obtain ⟨ad8, hA8, hAd8, hcl8⟩ := hrd8.at_ hp
          refine CW.skip (EX.seq (CW.seq (CW.block ?_)))
          -- mq: region
          refine CW.drawU [0, 1, 2, 3, 4, 5, 6, 10, 11, 12, 13, 14] 2 [[(7, false, [8, 9]), (15, false, [16, 17])]] (SH w3 (feet [blk g1 b.cells 26]) [blk g1 b.cells 26]) mixed (by kernel_rfl) (fun _ hw => hw.drew) (fun _ h => (by first | trivial | exact h | exact h.ch | exact (h.rem Rem.head).ch | exact ((h.rem Rem.head).rem Rem.head).ch | exact (((h.rem Rem.head).rem Rem.head).rem Rem.head).ch)) ?_
          refine QuP.cons rfl (fun wq hq => (RW.move rfl rfl RW.jn)) ?_
          refine QuP.cons rfl (fun wq hq => (RW.catS rfl rfl rfl (by first | omega | (simp only [List.length_append, List.length_cons, List.length_nil]; omega)) RW.jn)) ?_
          refine QuP.cons rfl (fun wq hq => (RW.move rfl rfl RW.jn)) ?_
          refine QuP.cons rfl (fun wq hq => (RW.move rfl rfl RW.jn)) ?_
          refine QuP.cons rfl (fun wq hq => (RW.ixAddr (q := k) sl61 rfl rfl rfl (by first | rfl | assumption) (by omega) (by omega) RW.jn)) ?_
          refine QuP.cons rfl (fun wq hq => (RW.fieldP fl24x0 rfl rfl RW.jn)) ?_
          refine QuP.cons rfl (fun wq hq => (RW.load1 sc3 rfl rfl (fun w1 e1 => by subst e1; exact (hq.base_cell (hcl8 0 _ rfl) (fun hk2 => by have := hlt8 _ hk2; have : w2.heap.size ≤ ad8.block := hAd8; simp only [block_add] at *; omega))) RW.jn)) ?_
          refine QuP.cons rfl (fun wq hq => (RW.move rfl rfl RW.jn)) ?_
          refine QuP.cons rfl (fun wq hq => (RW.move rfl rfl RW.jn)) ?_
          refine QuP.cons rfl (fun wq hq => (RW.ixAddr (q := k) sl61 rfl rfl rfl (by first | rfl | assumption) (by omega) (by omega) RW.jn)) ?_
          refine QuP.cons rfl (fun wq hq => (RW.fieldP fl24x1 rfl rfl RW.jn)) ?_
          refine QuP.cons rfl (fun wq hq => (RW.load1 sc3 rfl rfl (fun w1 e1 => by subst e1; exact (hq.base_cell (hcl8 1 _ rfl) (fun hk2 => by have := hlt8 _ hk2; have : w2.heap.size ≤ ad8.block := hAd8; simp only [block_add] at *; omega))) RW.jn)) ?_
          refine QuP.nil ?_
          refine UW.step [_] rfl (List.forall_mem_cons.2 ⟨?_, by simp⟩)
          refine RW.call rfl ca40 rfl (fun w' _ => refDigits_c w' mr (by omega)) ?_
          refine RW.st (fun _ => True) (fun _ h => .inr (by first | trivial | exact h | exact h.ch | exact (h.rem Rem.head).ch | exact ((h.rem Rem.head).rem Rem.head).ch | exact (((h.rem Rem.head).rem Rem.head).rem Rem.head).ch)) (fun _ h => trivial) ?_
          refine QuP.cons rfl (fun wq hq => (RW.catS rfl rfl rfl (by first | omega | (simp only [List.length_append, List.length_cons, List.length_nil]; omega)) RW.jn)) ?_
          refine QuP.cons rfl (fun wq hq => (RW.catS rfl rfl rfl (by first | omega | (simp only [List.length_append, List.length_cons, List.length_nil]; omega)) RW.jn)) ?_
          refine QuP.nil ?_
          refine UW.step [_] rfl (List.forall_mem_cons.2 ⟨?_, by simp⟩)
          refine RW.call rfl ca40 rfl (fun w' _ => refDigits_c w' mc (by omega)) ?_
          refine RW.st (fun _ => True) (fun _ h => .inr ⟨.inr (by first | trivial | exact h | exact h.ch | exact (h.rem Rem.head).ch | exact ((h.rem Rem.head).rem Rem.head).ch | exact (((h.rem Rem.head).rem Rem.head).rem Rem.head).ch), trivial⟩) (fun _ h => trivial) ?_
          refine QuP.cons rfl (fun wq hq => (RW.catS rfl rfl rfl (by first | omega | (simp only [List.length_append, List.length_cons, List.length_nil]; omega)) RW.jn)) ?_
          refine QuP.cons rfl (fun wq hq => (RW.assign rfl rfl RW.jn)) ?_
          refine QuP.nil ?_
          refine UW.nil (EX.bkN (EX.seq (CW.region ?_)))
          refine RW.move rfl rfl ?_
          refine RW.add rfl rfl rfl (wrap64 (by omega) (by omega)) ?_
          refine RW.assign rfl rfl ?_
          refine RW.nil ?_
          -- mq: loopend
          exact EX.lpN (k + 1) (by omega) (by omega) (by rw [hpt, show lf3 b ++ (posT (b.pos.take k) ++ ([32] ++ Lib.decDigits mr ++ [32] ++ Lib.decDigits mc)) = lf3 b ++ posT (b.pos.take k) ++ [32] ++ Lib.decDigits mr ++ [32] ++ Lib.decDigits mc by simp]; exact (by repeat (first | exact Sub.nil | refine Sub.cons (by rfl) ?_))) (fun w' hw' => hw')
        · skip
          have hkt : b.pos.take k = b.pos := List.take_of_length_le (by show 5 ≤ k; omega)
          rw [hkt] at hpk ⊢
          have hd1 : (hexT b.dir).length ≤ 513 := by unfold hexT; rw [List.length_cons, hexP_len]; omega
          have hd2 : (hexT b.line).length ≤ 513 := by unfold hexT; rw [List.length_cons, hexP_len]; omega
          refine CW.exit (EX.seqE (EX.lpE (EX.bkE (EX.seq (CW.seq ?_)))))
          -- mq: region
          refine CW.drawU [0, 1, 2, 3, 7, 8] 2 [[(4, false, [5, 6]), (9, false, [10, 11])]] (Ch [blk g1 b.cells 26]) mixed (by kernel_rfl) (fun _ hw => hw.drew) (fun _ h => (by first | trivial | exact h | exact h.ch | exact (h.rem Rem.head).ch | exact ((h.rem Rem.head).rem Rem.head).ch | exact (((h.rem Rem.head).rem Rem.head).rem Rem.head).ch)) ?_
          refine QuP.cons rfl (fun wq hq => (RW.move rfl rfl RW.jn)) ?_
          refine QuP.cons rfl (fun wq hq => (RW.catS rfl rfl rfl (by first | omega | (simp only [List.length_append, List.length_cons, List.length_nil]; omega)) RW.jn)) ?_
          refine QuP.cons rfl (fun wq hq => (RW.fieldB fl26x10 rfl rfl RW.jn)) ?_
          refine QuP.cons rfl (fun wq hq => (RW.load1 sc9 rfl rfl (fun w1 e1 => by subst e1; exact hq.blk_cell (by first | exact Has.head | exact Has.tail Has.head | exact Has.tail (Has.tail Has.head) | exact Has.tail (Has.tail (Has.tail Has.head)) | exact Has.tail (Has.tail (Has.tail (Has.tail Has.head))) | exact Has.tail (Has.tail (Has.tail (Has.tail (Has.tail Has.head)))) | exact Has.tail (Has.tail (Has.tail (Has.tail (Has.tail (Has.tail Has.head)))))) rfl) RW.jn)) ?_
          refine QuP.cons rfl (fun wq hq => (RW.fieldB fl26x11 rfl rfl RW.jn)) ?_
          refine QuP.cons rfl (fun wq hq => (RW.load1 sc9 rfl rfl (fun w1 e1 => by subst e1; exact hq.blk_cell (by first | exact Has.head | exact Has.tail Has.head | exact Has.tail (Has.tail Has.head) | exact Has.tail (Has.tail (Has.tail Has.head)) | exact Has.tail (Has.tail (Has.tail (Has.tail Has.head))) | exact Has.tail (Has.tail (Has.tail (Has.tail (Has.tail Has.head)))) | exact Has.tail (Has.tail (Has.tail (Has.tail (Has.tail (Has.tail Has.head)))))) rfl) RW.jn)) ?_
          refine QuP.nil ?_
          refine UW.step [_] rfl (List.forall_mem_cons.2 ⟨?_, by simp⟩)
          refine RW.call rfl ca41 rfl (fun w' _ => refHex_c w' b.dir (by omega)) ?_
          refine RW.st (fun _ => True) (fun _ h => .inr (by first | trivial | exact h | exact h.ch | exact (h.rem Rem.head).ch | exact ((h.rem Rem.head).rem Rem.head).ch | exact (((h.rem Rem.head).rem Rem.head).rem Rem.head).ch)) (fun _ h => trivial) ?_
          refine QuP.cons rfl (fun wq hq => (RW.catS rfl rfl rfl (by first | omega | (simp only [List.length_append, List.length_cons, List.length_nil]; omega)) RW.jn)) ?_
          refine QuP.cons rfl (fun wq hq => (RW.catS rfl rfl rfl (by first | omega | (simp only [List.length_append, List.length_cons, List.length_nil]; omega)) RW.jn)) ?_
          refine QuP.nil ?_
          refine UW.step [_] rfl (List.forall_mem_cons.2 ⟨?_, by simp⟩)
          refine RW.call rfl ca41 rfl (fun w' _ => refHex_c w' b.line (by omega)) ?_
          refine RW.st (fun _ => True) (fun _ h => .inr ⟨.inr (by first | trivial | exact h | exact h.ch | exact (h.rem Rem.head).ch | exact ((h.rem Rem.head).rem Rem.head).ch | exact (((h.rem Rem.head).rem Rem.head).rem Rem.head).ch), trivial⟩) (fun _ h => trivial) ?_
          refine QuP.cons rfl (fun wq hq => (RW.catS rfl rfl rfl (by first | omega | (simp only [List.length_append, List.length_cons, List.length_nil]; omega)) RW.jn)) ?_
          refine QuP.cons rfl (fun wq hq => (RW.assign rfl rfl RW.jn)) ?_
          refine QuP.nil ?_
          refine UW.nil (EX.seq (CW.ret ?_))
          refine EX.fin1 Tryd.results18 rfl (fun wz hw => ?_)
          -- mq: done
          exact ⟨by rw [lineF_eq], (hw.unbase hx3 hcv).ext⟩
end Go.Proofs.YtnkdabjahmjdoaaDoor.Mq
