/- dump: the walk of Line (printed by gend5.py) -/
import Derived.Test.YtnkdabjahmjdoaaDoorD3
namespace Go.Proofs.YtnkdabjahmjdoaaDoor.Mq
open Go Go.RowKit Go.Proofs

def w5 (b : BlkV) : List (List UInt8) := [[98, 108, 111, 99, 107], Lib.decDigits b.id, phaseW b.ph, cutW b.cut, codeW b.has b.code]
theorem wordsF_w5 (b : BlkV) : wordsF b = w5 b ++ posW b.pos ++ [hexT b.dir, hexT b.line] := by
  simp [wordsF, w5]
theorem posW_take {b : BlkV} {k : Nat} {p : Int × Int} (h : b.pos[k]? = some p) : posW (b.pos.take (k + 1)) = posW (b.pos.take k) ++ [Lib.itoa p.1, Lib.itoa p.2] := by
  rw [List.take_add_one, h]; simp [posW]
theorem estr_step {b : BlkV} {k : Nat} {p : Int × Int} (h : b.pos[k]? = some p) : EStr.all (w5 b ++ posW (b.pos.take (k + 1))) = EStr.all (w5 b ++ posW (b.pos.take k)) ++ [.string (bs (Lib.itoa p.1)), .string (bs (Lib.itoa p.2))] := by
  rw [posW_take h, ← List.append_assoc, Enc.all_append]; rfl
theorem wordsF_le {b : BlkV} (hb : b.Wf) (ht : toldB b = true) : ∀ x ∈ wordsF b, x.length ≤ 600 := by
  obtain ⟨h1, h2, h3, h4, h5⟩ := toldB_iff.1 ht
  intro x hx
  rw [wordsF_w5] at hx
  rcases List.mem_append.1 hx with hx | hx
  · rcases List.mem_append.1 hx with hx | hx
    · simp only [w5, List.mem_cons, List.not_mem_nil, or_false] at hx
      rcases hx with rfl | rfl | rfl | rfl | rfl
      · decide
      · have := dec_len20 hb.id; omega
      · have := phW_len b.ph; rw [phW, if_pos h1] at this; omega
      · unfold cutW; split <;> decide
      · unfold codeW; split
        · have := itoa_len hb.code; omega
        · decide
    · obtain ⟨p, hp, hx⟩ := List.mem_flatMap.1 hx
      have := hb.pos p hp
      simp only [List.mem_cons, List.not_mem_nil, or_false] at hx
      rcases hx with rfl | rfl
      · have := itoa_len this.1; omega
      · have := itoa_len this.2; omega
  · simp only [List.mem_cons, List.not_mem_nil, or_false] at hx
    rcases hx with rfl | rfl
    · have := hexP_len b.dir; unfold hexT; rw [List.length_cons]; omega
    · have := hexP_len b.line; unfold hexT; rw [List.length_cons]; omega
theorem wordsF_len (b : BlkV) : (wordsF b).length = 17 := rfl
theorem lineF_len {b : BlkV} (hb : b.Wf) (ht : toldB b = true) : (lineF b).length ≤ 11000 := by
  have := join_le [32] 600 (wordsF b) (wordsF_le hb ht)
  rw [wordsF_len] at this
  unfold lineF
  simp at this
  omega
def lineR (b : BlkV) : Value := if toldB b = true then .tuple #[.string (bs (lineF b)), .int .i64 0] else .tuple #[.string (bs []), .int .i64 1]
theorem line_c (w : World) (hg : Gl w) (b : BlkV) (hb : b.Wf) :
    Calls Tryd.prog 15 [.agg b.cells.toArray].toArray w (fun e w' => e = .returned (lineR b) ∧ Ext [] w w') := by
  refine calls (n := 62) Tryd.func15 rfl Tryd.ntmps15 rfl ?_
  refine CW.sub (H' := SH w [] []) ?_ (Sub.refl _) (fun x hx => SH.start' _ _ hx)
  refine CW.seq (CW.region ?_)
  refine RW.boxA rfl rfl (fun g1 hg1 hf1 => ?_)
  refine RW.assign rfl rfl ?_
  refine RW.assign rfl rfl ?_
  refine RW.nil (EX.seq (CW.seq (CW.seq ?_)))
  -- mq: region
  refine CW.region ?_
  refine RW.loadBA ag26 rfl rfl (by first | exact Has.head | exact Has.tail Has.head | exact Has.tail (Has.tail Has.head) | exact Has.tail (Has.tail (Has.tail Has.head)) | exact Has.tail (Has.tail (Has.tail (Has.tail Has.head))) | exact Has.tail (Has.tail (Has.tail (Has.tail (Has.tail Has.head)))) | exact Has.tail (Has.tail (Has.tail (Has.tail (Has.tail (Has.tail Has.head)))))) rfl rfl ?_
  refine RW.call rfl ca27 rfl (fun w' _ => told_c w' b) ?_
  refine RW.not_ rfl rfl ?_
  refine RW.nil (EX.seq ?_)
  -- mq: cond
  first | refine CW.condD rfl (fun h0 => ?_) (fun h0 => ?_) | refine CW.cond rfl (fun h0 => ?_) (fun h0 => ?_)
  · skip
    refine CW.seq (CW.region ?_)
    refine RW.assign rfl rfl ?_
    refine RW.assign rfl rfl ?_
    refine RW.nil (EX.seq (CW.ret (EX.seqR ?_)))
    refine EX.fin2 Tryd.results15 rfl rfl (fun wz hw => ?_)
    -- mq: done
    exact ⟨by rw [lineR, if_neg (by rw [nb_f h0]; decide)], hw.ext⟩
  · skip
    have ht := nb_t h0
    obtain ⟨ht1, ht2, ht3, ht4, ht5⟩ := toldB_iff.1 ht
    have hpos := hb.pos
    refine CW.skip (EX.seq (CW.seq ?_))
    -- mq: region
    refine CW.region ?_
    refine RW.fieldB fl26x1 rfl rfl ?_
    refine RW.loadB1 sc3 rfl rfl (by first | exact Has.head | exact Has.tail Has.head | exact Has.tail (Has.tail Has.head) | exact Has.tail (Has.tail (Has.tail Has.head)) | exact Has.tail (Has.tail (Has.tail (Has.tail Has.head))) | exact Has.tail (Has.tail (Has.tail (Has.tail (Has.tail Has.head)))) | exact Has.tail (Has.tail (Has.tail (Has.tail (Has.tail (Has.tail Has.head)))))) rfl ?_
    refine RW.call rfl ca11 rfl (fun w' _ => phase_c w' b.ph) ?_
    refine RW.move rfl rfl ?_
    refine RW.extract rfl rfl rfl ?_
    refine RW.extract rfl rfl rfl ?_
    refine RW.assign rfl rfl ?_
    refine RW.assign rfl rfl ?_
    refine RW.nil (EX.seq (CW.seq ?_))
    -- mq: region
    refine CW.region ?_
    refine RW.fieldB fl26x0 rfl rfl ?_
    refine RW.loadB1 sc22 rfl rfl (by first | exact Has.head | exact Has.tail Has.head | exact Has.tail (Has.tail Has.head) | exact Has.tail (Has.tail (Has.tail Has.head)) | exact Has.tail (Has.tail (Has.tail (Has.tail Has.head))) | exact Has.tail (Has.tail (Has.tail (Has.tail (Has.tail Has.head)))) | exact Has.tail (Has.tail (Has.tail (Has.tail (Has.tail (Has.tail Has.head)))))) rfl ?_
    refine RW.call rfl caFU rfl (fun w' hw' => formatUint_c w' (hg.ext hw'.ext) b.id hb.id) ?_
    refine RW.move rfl rfl ?_
    refine RW.buildSlc sl33 rfl rfl rfl rfl (fun g22 hg22 hf22 => ?_)
    refine RW.assign rfl rfl ?_
    refine RW.nil (EX.seq (CW.seq ?_))
    -- mq: seq
    refine CW.join ([(1, .pointer (some ⟨g1, 0, none⟩)), (6, .slice (some ⟨g22, 0, none⟩) 5 5)]) (SH w [] [blk g22 [.string (bs [98, 108, 111, 99, 107]), .string (bs (Lib.decDigits b.id)), .string (bs (phaseW b.ph)), .string (bs (cutW b.cut)), .string (bs [45])] 9, blk g1 b.cells 26]) ?_ ?_
    · skip
      refine CW.seq (CW.region ?_)
      refine RW.fieldB fl26x9 rfl rfl ?_
      refine RW.loadB1 sc4 rfl rfl (by first | exact Has.head | exact Has.tail Has.head | exact Has.tail (Has.tail Has.head) | exact Has.tail (Has.tail (Has.tail Has.head)) | exact Has.tail (Has.tail (Has.tail (Has.tail Has.head))) | exact Has.tail (Has.tail (Has.tail (Has.tail (Has.tail Has.head)))) | exact Has.tail (Has.tail (Has.tail (Has.tail (Has.tail (Has.tail Has.head)))))) rfl ?_
      refine RW.nil (EX.seq ?_)
      -- mq: cond
      first | refine CW.condD rfl (fun h1 => ?_) (fun h1 => ?_) | refine CW.cond rfl (fun h1 => ?_) (fun h1 => ?_)
      · skip
        refine CW.region ?_
        refine RW.move rfl rfl ?_
        refine RW.ixAddr (q := 3) sl33 rfl rfl rfl (by first | rfl | assumption) (by omega) (by omega) ?_
        -- mq: at
        refine RW.store1 sc9 rfl rfl (by first | exact Upd.head | exact Upd.tail Upd.head | exact Upd.tail (Upd.tail Upd.head) | exact Upd.tail (Upd.tail (Upd.tail Upd.head)) | exact Upd.tail (Upd.tail (Upd.tail (Upd.tail Upd.head))) | exact Upd.tail (Upd.tail (Upd.tail (Upd.tail (Upd.tail Upd.head)))) | exact Upd.tail (Upd.tail (Upd.tail (Upd.tail (Upd.tail (Upd.tail Upd.head)))))) rfl (by first | exact Nat.le_of_ble_eq_true rfl | simp) ?_
        refine RW.nil ?_
        -- mq: joinend
        rw [cutW, if_pos h1]
        exact EX.jn (by repeat (first | exact Sub.nil | refine Sub.cons (by rfl) ?_)) (fun _ h => h)
      · skip
        refine CW.skip ?_
        -- mq: joinend
        rw [cutW, if_neg (by simp [h1])]
        exact EX.jn (by repeat (first | exact Sub.nil | refine Sub.cons (by rfl) ?_)) (fun _ h => h)
    · skip
      refine EX.seq (CW.seq ?_)
      -- mq: seq
      refine CW.join ([(1, .pointer (some ⟨g1, 0, none⟩)), (6, .slice (some ⟨g22, 0, none⟩) 5 5)]) (SH w [] [blk g22 [.string (bs [98, 108, 111, 99, 107]), .string (bs (Lib.decDigits b.id)), .string (bs (phaseW b.ph)), .string (bs (cutW b.cut)), .string (bs (codeW b.has b.code))] 9, blk g1 b.cells 26]) ?_ ?_
      · skip
        refine CW.seq (CW.region ?_)
        refine RW.fieldB fl26x8 rfl rfl ?_
        refine RW.loadB1 sc4 rfl rfl (by first | exact Has.head | exact Has.tail Has.head | exact Has.tail (Has.tail Has.head) | exact Has.tail (Has.tail (Has.tail Has.head)) | exact Has.tail (Has.tail (Has.tail (Has.tail Has.head))) | exact Has.tail (Has.tail (Has.tail (Has.tail (Has.tail Has.head)))) | exact Has.tail (Has.tail (Has.tail (Has.tail (Has.tail (Has.tail Has.head)))))) rfl ?_
        refine RW.nil (EX.seq ?_)
        -- mq: cond
        first | refine CW.condD rfl (fun h1 => ?_) (fun h1 => ?_) | refine CW.cond rfl (fun h1 => ?_) (fun h1 => ?_)
        · skip
          refine CW.region ?_
          refine RW.move rfl rfl ?_
          refine RW.fieldB fl26x7 rfl rfl ?_
          refine RW.loadB1 sc3 rfl rfl (by first | exact Has.head | exact Has.tail Has.head | exact Has.tail (Has.tail Has.head) | exact Has.tail (Has.tail (Has.tail Has.head)) | exact Has.tail (Has.tail (Has.tail (Has.tail Has.head))) | exact Has.tail (Has.tail (Has.tail (Has.tail (Has.tail Has.head)))) | exact Has.tail (Has.tail (Has.tail (Has.tail (Has.tail (Has.tail Has.head)))))) rfl ?_
          refine RW.call rfl caItoa rfl (fun w' hw' => itoa_c w' (hg.ext hw'.ext) b.code hb.code) ?_
          refine RW.ixAddr (q := 4) sl33 rfl rfl rfl (by first | rfl | assumption) (by omega) (by omega) ?_
          -- mq: at
          refine RW.store1 sc9 rfl rfl (by first | exact Upd.head | exact Upd.tail Upd.head | exact Upd.tail (Upd.tail Upd.head) | exact Upd.tail (Upd.tail (Upd.tail Upd.head)) | exact Upd.tail (Upd.tail (Upd.tail (Upd.tail Upd.head))) | exact Upd.tail (Upd.tail (Upd.tail (Upd.tail (Upd.tail Upd.head)))) | exact Upd.tail (Upd.tail (Upd.tail (Upd.tail (Upd.tail (Upd.tail Upd.head)))))) rfl (by first | exact Nat.le_of_ble_eq_true rfl | simp) ?_
          refine RW.nil ?_
          -- mq: joinend
          rw [codeW, if_pos h1]
          exact EX.jn (by repeat (first | exact Sub.nil | refine Sub.cons (by rfl) ?_)) (fun _ h => h)
        · skip
          refine CW.skip ?_
          -- mq: joinend
          rw [codeW, if_neg (by simp [h1])]
          exact EX.jn (by repeat (first | exact Sub.nil | refine Sub.cons (by rfl) ?_)) (fun _ h => h)
      · skip
        refine EX.seq (CW.seq (CW.seq (CW.region ?_)))
        refine RW.call rfl ca28 rfl (fun w' _ => places_c w' g1) ?_
        refine RW.move rfl rfl ?_
        refine RW.nil (EX.seq (CW.block ?_))
        -- mq: loop
        refine CW.ownBlk (m := 5) (sz := 1) (by first | exact Upd.head | exact Upd.tail Upd.head | exact Upd.tail (Upd.tail Upd.head) | exact Upd.tail (Upd.tail (Upd.tail Upd.head)) | exact Upd.tail (Upd.tail (Upd.tail (Upd.tail Upd.head))) | exact Upd.tail (Upd.tail (Upd.tail (Upd.tail (Upd.tail Upd.head)))) | exact Upd.tail (Upd.tail (Upd.tail (Upd.tail (Upd.tail (Upd.tail Upd.head)))))) rfl (by decide) ?_
        refine CW.loop (ι := Nat × Value) (fun k => [(1, .pointer (some ⟨g1, 0, none⟩)), (6, k.2), (34, .agg (ptrs g1).toArray), (35, .int .i64 (k.1 : Int))]) (fun k => SH w [] [own 9 1 k.2 (5 + 2 * k.1) (EStr.all (w5 b ++ posW (b.pos.take k.1))), blk g1 b.cells 26]) (fun k => k.1 ≤ 5) (fun k => 5 - k.1) ?_ ?_
        · exact fun w' hw' => ⟨(0, _), Nat.zero_le _, (by repeat (first | exact Sub.nil | refine Sub.cons (by rfl) ?_)), hw'⟩
        · rintro ⟨k, u⟩ hk
          dsimp only at hk ⊢
          refine CW.seq (CW.region ?_)
          refine RW.lss rfl rfl rfl ?_
          refine RW.nil (EX.seq (CW.seq ?_))
          -- mq: cond
          first | refine CW.condD rfl (fun hlt => ?_) (fun hlt => ?_) | refine CW.cond rfl (fun hlt => ?_) (fun hlt => ?_)
          · skip
            rcases (show k = 0 ∨ k = 1 ∨ k = 2 ∨ k = 3 ∨ k = 4 by omega) with rfl | rfl | rfl | rfl | rfl
            · skip
              refine CW.skip (EX.seq (CW.seq (CW.block (CW.seq (CW.region ?_)))))
              refine RW.ixValS (q := 0) Tryd.underlying56 sc55 rfl rfl rfl (by omega) (by omega) rfl ?_
              -- mq: at
              refine RW.assign rfl rfl ?_
              refine RW.nil (EX.seq ?_)
              -- mq: region
              have hp := hpos (b.r1, b.c1) (by simp [BlkV.pos])
              refine CW.drawU [0, 1, 2, 3, 4, 6, 7, 8, 9] 4 [[(5, false, []), (10, false, []), (11, false, []), (12, false, [13])]] (Ch [blk g1 b.cells 26]) mixed (by kernel_rfl) (fun _ hw => hw.drew) (fun _ h => (by first | trivial | exact h | exact h.ch | exact (h.rem Rem.head).ch | exact ((h.rem Rem.head).rem Rem.head).ch | exact (((h.rem Rem.head).rem Rem.head).rem Rem.head).ch)) ?_
              refine QuP.cons rfl (fun wq hq => (RW.move rfl rfl RW.jn)) ?_
              refine QuP.cons rfl (fun wq hq => (RW.move rfl rfl RW.jn)) ?_
              refine QuP.cons rfl (fun wq hq => (RW.nilChk rfl rfl RW.jn)) ?_
              refine QuP.cons rfl (fun wq hq => (RW.fieldB fl24x0 rfl rfl RW.jn)) ?_
              refine QuP.cons rfl (fun wq hq => (RW.load1 sc3 rfl rfl (fun w1 e1 => by subst e1; exact hq.blk_cell (by first | exact Has.head | exact Has.tail Has.head | exact Has.tail (Has.tail Has.head) | exact Has.tail (Has.tail (Has.tail Has.head)) | exact Has.tail (Has.tail (Has.tail (Has.tail Has.head))) | exact Has.tail (Has.tail (Has.tail (Has.tail (Has.tail Has.head)))) | exact Has.tail (Has.tail (Has.tail (Has.tail (Has.tail (Has.tail Has.head)))))) rfl) RW.jn)) ?_
              refine QuP.cons rfl (fun wq hq => (RW.move rfl rfl RW.jn)) ?_
              refine QuP.cons rfl (fun wq hq => (RW.nilChk rfl rfl RW.jn)) ?_
              refine QuP.cons rfl (fun wq hq => (RW.fieldB fl24x1 rfl rfl RW.jn)) ?_
              refine QuP.cons rfl (fun wq hq => (RW.load1 sc3 rfl rfl (fun w1 e1 => by subst e1; exact hq.blk_cell (by first | exact Has.head | exact Has.tail Has.head | exact Has.tail (Has.tail Has.head) | exact Has.tail (Has.tail (Has.tail Has.head)) | exact Has.tail (Has.tail (Has.tail (Has.tail Has.head))) | exact Has.tail (Has.tail (Has.tail (Has.tail (Has.tail Has.head)))) | exact Has.tail (Has.tail (Has.tail (Has.tail (Has.tail (Has.tail Has.head)))))) rfl) RW.jn)) ?_
              refine QuP.nil ?_
              refine UW.step [_] rfl (List.forall_mem_cons.2 ⟨?_, by simp⟩)
              refine RW.call rfl caItoa rfl (fun w' hw' => itoa_c w' (hg.ext hw'.ext) b.r1 hp.1) ?_
              refine RW.st (fun _ => True) (fun _ h => .inr (by first | trivial | exact h | exact h.ch | exact (h.rem Rem.head).ch | exact ((h.rem Rem.head).rem Rem.head).ch | exact (((h.rem Rem.head).rem Rem.head).rem Rem.head).ch)) (fun _ h => trivial) ?_
              refine QuP.nil ?_
              refine UW.step [_] rfl (List.forall_mem_cons.2 ⟨?_, by simp⟩)
              refine RW.call rfl caItoa rfl (fun w' hw' => itoa_c w' (hg.ext hw'.ext) b.c1 hp.2) ?_
              refine RW.st (fun _ => True) (fun _ h => .inr ⟨.inr (by first | trivial | exact h | exact h.ch | exact (h.rem Rem.head).ch | exact ((h.rem Rem.head).rem Rem.head).ch | exact (((h.rem Rem.head).rem Rem.head).rem Rem.head).ch), trivial⟩) (fun _ h => trivial) ?_
              refine QuP.nil ?_
              refine UW.step [_] rfl (List.forall_mem_cons.2 ⟨?_, by simp⟩)
              refine RW.buildSlc sl33 rfl rfl rfl rfl (fun g49 hg49 hf49 => ?_)
              refine RW.st (fun _ => True) (fun _ h => .inr ⟨.inr ⟨.inr (by first | trivial | exact h | exact h.ch | exact (h.rem Rem.head).ch | exact ((h.rem Rem.head).rem Rem.head).ch | exact (((h.rem Rem.head).rem Rem.head).rem Rem.head).ch), trivial⟩, trivial⟩) (fun _ h => trivial) ?_
              refine QuP.nil ?_
              refine UW.step [_] rfl (List.forall_mem_cons.2 ⟨?_, by simp⟩)
              refine RW.append1 sl33 rfl rfl rfl (by first | exact Rem.head | exact Rem.tail Rem.head | exact Rem.tail (Rem.tail Rem.head) | exact Rem.tail (Rem.tail (Rem.tail Rem.head)) | exact Rem.tail (Rem.tail (Rem.tail (Rem.tail Rem.head))) | exact Rem.tail (Rem.tail (Rem.tail (Rem.tail (Rem.tail Rem.head)))) | exact Rem.tail (Rem.tail (Rem.tail (Rem.tail (Rem.tail (Rem.tail Rem.head)))))) (fun _ => by first | exact Upd.head | exact Upd.tail Upd.head | exact Upd.tail (Upd.tail Upd.head) | exact Upd.tail (Upd.tail (Upd.tail Upd.head)) | exact Upd.tail (Upd.tail (Upd.tail (Upd.tail Upd.head))) | exact Upd.tail (Upd.tail (Upd.tail (Upd.tail (Upd.tail Upd.head)))) | exact Upd.tail (Upd.tail (Upd.tail (Upd.tail (Upd.tail (Upd.tail Upd.head)))))) rfl (by repeat (first | exact Ones.nil | exact Enc.ones _ _ | refine Ones.cons rfl ?_)) (by simp only [maxLen]; omega) (by omega) (fun v50 hv50 => ?_)
              refine RW.st (fun _ => True) (fun _ h => .inr ⟨.inr ⟨.inr ⟨.inr (by first | trivial | exact h | exact h.ch | exact (h.rem Rem.head).ch | exact ((h.rem Rem.head).rem Rem.head).ch | exact (((h.rem Rem.head).rem Rem.head).rem Rem.head).ch), trivial⟩, trivial⟩, trivial⟩) (fun _ h => trivial) ?_
              refine QuP.cons rfl (fun wq hq => (RW.assign rfl rfl RW.jn)) ?_
              refine QuP.nil ?_
              refine UW.nil (EX.bkN (EX.seq (CW.region ?_)))
              refine RW.add rfl rfl rfl (wrap64 (by omega) (by omega)) ?_
              refine RW.move rfl rfl ?_
              refine RW.nil ?_
              -- mq: loopend
              refine EX.lpN (1, v50) (by dsimp only; omega) (by dsimp only; omega) (by repeat (first | exact Sub.nil | refine Sub.cons (by rfl) ?_)) (fun w' hw' => ?_)
              dsimp only
              rw [estr_step (b := b) (k := 0) (p := (b.r1, b.c1)) rfl]
              exact hw'
            · skip
              refine CW.skip (EX.seq (CW.seq (CW.block (CW.seq (CW.region ?_)))))
              refine RW.ixValS (q := 1) Tryd.underlying56 sc55 rfl rfl rfl (by omega) (by omega) rfl ?_
              -- mq: at
              refine RW.assign rfl rfl ?_
              refine RW.nil (EX.seq ?_)
              -- mq: region
              have hp := hpos (b.r2, b.c2) (by simp [BlkV.pos])
              refine CW.drawU [0, 1, 2, 3, 4, 6, 7, 8, 9] 4 [[(5, false, []), (10, false, []), (11, false, []), (12, false, [13])]] (Ch [blk g1 b.cells 26]) mixed (by kernel_rfl) (fun _ hw => hw.drew) (fun _ h => (by first | trivial | exact h | exact h.ch | exact (h.rem Rem.head).ch | exact ((h.rem Rem.head).rem Rem.head).ch | exact (((h.rem Rem.head).rem Rem.head).rem Rem.head).ch)) ?_
              refine QuP.cons rfl (fun wq hq => (RW.move rfl rfl RW.jn)) ?_
              refine QuP.cons rfl (fun wq hq => (RW.move rfl rfl RW.jn)) ?_
              refine QuP.cons rfl (fun wq hq => (RW.nilChk rfl rfl RW.jn)) ?_
              refine QuP.cons rfl (fun wq hq => (RW.fieldB fl24x0 rfl rfl RW.jn)) ?_
              refine QuP.cons rfl (fun wq hq => (RW.load1 sc3 rfl rfl (fun w1 e1 => by subst e1; exact hq.blk_cell (by first | exact Has.head | exact Has.tail Has.head | exact Has.tail (Has.tail Has.head) | exact Has.tail (Has.tail (Has.tail Has.head)) | exact Has.tail (Has.tail (Has.tail (Has.tail Has.head))) | exact Has.tail (Has.tail (Has.tail (Has.tail (Has.tail Has.head)))) | exact Has.tail (Has.tail (Has.tail (Has.tail (Has.tail (Has.tail Has.head)))))) rfl) RW.jn)) ?_
              refine QuP.cons rfl (fun wq hq => (RW.move rfl rfl RW.jn)) ?_
              refine QuP.cons rfl (fun wq hq => (RW.nilChk rfl rfl RW.jn)) ?_
              refine QuP.cons rfl (fun wq hq => (RW.fieldB fl24x1 rfl rfl RW.jn)) ?_
              refine QuP.cons rfl (fun wq hq => (RW.load1 sc3 rfl rfl (fun w1 e1 => by subst e1; exact hq.blk_cell (by first | exact Has.head | exact Has.tail Has.head | exact Has.tail (Has.tail Has.head) | exact Has.tail (Has.tail (Has.tail Has.head)) | exact Has.tail (Has.tail (Has.tail (Has.tail Has.head))) | exact Has.tail (Has.tail (Has.tail (Has.tail (Has.tail Has.head)))) | exact Has.tail (Has.tail (Has.tail (Has.tail (Has.tail (Has.tail Has.head)))))) rfl) RW.jn)) ?_
              refine QuP.nil ?_
              refine UW.step [_] rfl (List.forall_mem_cons.2 ⟨?_, by simp⟩)
              refine RW.call rfl caItoa rfl (fun w' hw' => itoa_c w' (hg.ext hw'.ext) b.r2 hp.1) ?_
              refine RW.st (fun _ => True) (fun _ h => .inr (by first | trivial | exact h | exact h.ch | exact (h.rem Rem.head).ch | exact ((h.rem Rem.head).rem Rem.head).ch | exact (((h.rem Rem.head).rem Rem.head).rem Rem.head).ch)) (fun _ h => trivial) ?_
              refine QuP.nil ?_
              refine UW.step [_] rfl (List.forall_mem_cons.2 ⟨?_, by simp⟩)
              refine RW.call rfl caItoa rfl (fun w' hw' => itoa_c w' (hg.ext hw'.ext) b.c2 hp.2) ?_
              refine RW.st (fun _ => True) (fun _ h => .inr ⟨.inr (by first | trivial | exact h | exact h.ch | exact (h.rem Rem.head).ch | exact ((h.rem Rem.head).rem Rem.head).ch | exact (((h.rem Rem.head).rem Rem.head).rem Rem.head).ch), trivial⟩) (fun _ h => trivial) ?_
              refine QuP.nil ?_
              refine UW.step [_] rfl (List.forall_mem_cons.2 ⟨?_, by simp⟩)
              refine RW.buildSlc sl33 rfl rfl rfl rfl (fun g49 hg49 hf49 => ?_)
              refine RW.st (fun _ => True) (fun _ h => .inr ⟨.inr ⟨.inr (by first | trivial | exact h | exact h.ch | exact (h.rem Rem.head).ch | exact ((h.rem Rem.head).rem Rem.head).ch | exact (((h.rem Rem.head).rem Rem.head).rem Rem.head).ch), trivial⟩, trivial⟩) (fun _ h => trivial) ?_
              refine QuP.nil ?_
              refine UW.step [_] rfl (List.forall_mem_cons.2 ⟨?_, by simp⟩)
              refine RW.append1 sl33 rfl rfl rfl (by first | exact Rem.head | exact Rem.tail Rem.head | exact Rem.tail (Rem.tail Rem.head) | exact Rem.tail (Rem.tail (Rem.tail Rem.head)) | exact Rem.tail (Rem.tail (Rem.tail (Rem.tail Rem.head))) | exact Rem.tail (Rem.tail (Rem.tail (Rem.tail (Rem.tail Rem.head)))) | exact Rem.tail (Rem.tail (Rem.tail (Rem.tail (Rem.tail (Rem.tail Rem.head)))))) (fun _ => by first | exact Upd.head | exact Upd.tail Upd.head | exact Upd.tail (Upd.tail Upd.head) | exact Upd.tail (Upd.tail (Upd.tail Upd.head)) | exact Upd.tail (Upd.tail (Upd.tail (Upd.tail Upd.head))) | exact Upd.tail (Upd.tail (Upd.tail (Upd.tail (Upd.tail Upd.head)))) | exact Upd.tail (Upd.tail (Upd.tail (Upd.tail (Upd.tail (Upd.tail Upd.head)))))) rfl (by repeat (first | exact Ones.nil | exact Enc.ones _ _ | refine Ones.cons rfl ?_)) (by simp only [maxLen]; omega) (by omega) (fun v50 hv50 => ?_)
              refine RW.st (fun _ => True) (fun _ h => .inr ⟨.inr ⟨.inr ⟨.inr (by first | trivial | exact h | exact h.ch | exact (h.rem Rem.head).ch | exact ((h.rem Rem.head).rem Rem.head).ch | exact (((h.rem Rem.head).rem Rem.head).rem Rem.head).ch), trivial⟩, trivial⟩, trivial⟩) (fun _ h => trivial) ?_
              refine QuP.cons rfl (fun wq hq => (RW.assign rfl rfl RW.jn)) ?_
              refine QuP.nil ?_
              refine UW.nil (EX.bkN (EX.seq (CW.region ?_)))
              refine RW.add rfl rfl rfl (wrap64 (by omega) (by omega)) ?_
              refine RW.move rfl rfl ?_
              refine RW.nil ?_
              -- mq: loopend
              refine EX.lpN (2, v50) (by dsimp only; omega) (by dsimp only; omega) (by repeat (first | exact Sub.nil | refine Sub.cons (by rfl) ?_)) (fun w' hw' => ?_)
              dsimp only
              rw [estr_step (b := b) (k := 1) (p := (b.r2, b.c2)) rfl]
              exact hw'
            · skip
              refine CW.skip (EX.seq (CW.seq (CW.block (CW.seq (CW.region ?_)))))
              refine RW.ixValS (q := 2) Tryd.underlying56 sc55 rfl rfl rfl (by omega) (by omega) rfl ?_
              -- mq: at
              refine RW.assign rfl rfl ?_
              refine RW.nil (EX.seq ?_)
              -- mq: region
              have hp := hpos (b.r3, b.c3) (by simp [BlkV.pos])
              refine CW.drawU [0, 1, 2, 3, 4, 6, 7, 8, 9] 4 [[(5, false, []), (10, false, []), (11, false, []), (12, false, [13])]] (Ch [blk g1 b.cells 26]) mixed (by kernel_rfl) (fun _ hw => hw.drew) (fun _ h => (by first | trivial | exact h | exact h.ch | exact (h.rem Rem.head).ch | exact ((h.rem Rem.head).rem Rem.head).ch | exact (((h.rem Rem.head).rem Rem.head).rem Rem.head).ch)) ?_
              refine QuP.cons rfl (fun wq hq => (RW.move rfl rfl RW.jn)) ?_
              refine QuP.cons rfl (fun wq hq => (RW.move rfl rfl RW.jn)) ?_
              refine QuP.cons rfl (fun wq hq => (RW.nilChk rfl rfl RW.jn)) ?_
              refine QuP.cons rfl (fun wq hq => (RW.fieldB fl24x0 rfl rfl RW.jn)) ?_
              refine QuP.cons rfl (fun wq hq => (RW.load1 sc3 rfl rfl (fun w1 e1 => by subst e1; exact hq.blk_cell (by first | exact Has.head | exact Has.tail Has.head | exact Has.tail (Has.tail Has.head) | exact Has.tail (Has.tail (Has.tail Has.head)) | exact Has.tail (Has.tail (Has.tail (Has.tail Has.head))) | exact Has.tail (Has.tail (Has.tail (Has.tail (Has.tail Has.head)))) | exact Has.tail (Has.tail (Has.tail (Has.tail (Has.tail (Has.tail Has.head)))))) rfl) RW.jn)) ?_
              refine QuP.cons rfl (fun wq hq => (RW.move rfl rfl RW.jn)) ?_
              refine QuP.cons rfl (fun wq hq => (RW.nilChk rfl rfl RW.jn)) ?_
              refine QuP.cons rfl (fun wq hq => (RW.fieldB fl24x1 rfl rfl RW.jn)) ?_
              refine QuP.cons rfl (fun wq hq => (RW.load1 sc3 rfl rfl (fun w1 e1 => by subst e1; exact hq.blk_cell (by first | exact Has.head | exact Has.tail Has.head | exact Has.tail (Has.tail Has.head) | exact Has.tail (Has.tail (Has.tail Has.head)) | exact Has.tail (Has.tail (Has.tail (Has.tail Has.head))) | exact Has.tail (Has.tail (Has.tail (Has.tail (Has.tail Has.head)))) | exact Has.tail (Has.tail (Has.tail (Has.tail (Has.tail (Has.tail Has.head)))))) rfl) RW.jn)) ?_
              refine QuP.nil ?_
              refine UW.step [_] rfl (List.forall_mem_cons.2 ⟨?_, by simp⟩)
              refine RW.call rfl caItoa rfl (fun w' hw' => itoa_c w' (hg.ext hw'.ext) b.r3 hp.1) ?_
              refine RW.st (fun _ => True) (fun _ h => .inr (by first | trivial | exact h | exact h.ch | exact (h.rem Rem.head).ch | exact ((h.rem Rem.head).rem Rem.head).ch | exact (((h.rem Rem.head).rem Rem.head).rem Rem.head).ch)) (fun _ h => trivial) ?_
              refine QuP.nil ?_
              refine UW.step [_] rfl (List.forall_mem_cons.2 ⟨?_, by simp⟩)
              refine RW.call rfl caItoa rfl (fun w' hw' => itoa_c w' (hg.ext hw'.ext) b.c3 hp.2) ?_
              refine RW.st (fun _ => True) (fun _ h => .inr ⟨.inr (by first | trivial | exact h | exact h.ch | exact (h.rem Rem.head).ch | exact ((h.rem Rem.head).rem Rem.head).ch | exact (((h.rem Rem.head).rem Rem.head).rem Rem.head).ch), trivial⟩) (fun _ h => trivial) ?_
              refine QuP.nil ?_
              refine UW.step [_] rfl (List.forall_mem_cons.2 ⟨?_, by simp⟩)
              refine RW.buildSlc sl33 rfl rfl rfl rfl (fun g49 hg49 hf49 => ?_)
              refine RW.st (fun _ => True) (fun _ h => .inr ⟨.inr ⟨.inr (by first | trivial | exact h | exact h.ch | exact (h.rem Rem.head).ch | exact ((h.rem Rem.head).rem Rem.head).ch | exact (((h.rem Rem.head).rem Rem.head).rem Rem.head).ch), trivial⟩, trivial⟩) (fun _ h => trivial) ?_
              refine QuP.nil ?_
              refine UW.step [_] rfl (List.forall_mem_cons.2 ⟨?_, by simp⟩)
              refine RW.append1 sl33 rfl rfl rfl (by first | exact Rem.head | exact Rem.tail Rem.head | exact Rem.tail (Rem.tail Rem.head) | exact Rem.tail (Rem.tail (Rem.tail Rem.head)) | exact Rem.tail (Rem.tail (Rem.tail (Rem.tail Rem.head))) | exact Rem.tail (Rem.tail (Rem.tail (Rem.tail (Rem.tail Rem.head)))) | exact Rem.tail (Rem.tail (Rem.tail (Rem.tail (Rem.tail (Rem.tail Rem.head)))))) (fun _ => by first | exact Upd.head | exact Upd.tail Upd.head | exact Upd.tail (Upd.tail Upd.head) | exact Upd.tail (Upd.tail (Upd.tail Upd.head)) | exact Upd.tail (Upd.tail (Upd.tail (Upd.tail Upd.head))) | exact Upd.tail (Upd.tail (Upd.tail (Upd.tail (Upd.tail Upd.head)))) | exact Upd.tail (Upd.tail (Upd.tail (Upd.tail (Upd.tail (Upd.tail Upd.head)))))) rfl (by repeat (first | exact Ones.nil | exact Enc.ones _ _ | refine Ones.cons rfl ?_)) (by simp only [maxLen]; omega) (by omega) (fun v50 hv50 => ?_)
              refine RW.st (fun _ => True) (fun _ h => .inr ⟨.inr ⟨.inr ⟨.inr (by first | trivial | exact h | exact h.ch | exact (h.rem Rem.head).ch | exact ((h.rem Rem.head).rem Rem.head).ch | exact (((h.rem Rem.head).rem Rem.head).rem Rem.head).ch), trivial⟩, trivial⟩, trivial⟩) (fun _ h => trivial) ?_
              refine QuP.cons rfl (fun wq hq => (RW.assign rfl rfl RW.jn)) ?_
              refine QuP.nil ?_
              refine UW.nil (EX.bkN (EX.seq (CW.region ?_)))
              refine RW.add rfl rfl rfl (wrap64 (by omega) (by omega)) ?_
              refine RW.move rfl rfl ?_
              refine RW.nil ?_
              -- mq: loopend
              refine EX.lpN (3, v50) (by dsimp only; omega) (by dsimp only; omega) (by repeat (first | exact Sub.nil | refine Sub.cons (by rfl) ?_)) (fun w' hw' => ?_)
              dsimp only
              rw [estr_step (b := b) (k := 2) (p := (b.r3, b.c3)) rfl]
              exact hw'
            · skip
              refine CW.skip (EX.seq (CW.seq (CW.block (CW.seq (CW.region ?_)))))
              refine RW.ixValS (q := 3) Tryd.underlying56 sc55 rfl rfl rfl (by omega) (by omega) rfl ?_
              -- mq: at
              refine RW.assign rfl rfl ?_
              refine RW.nil (EX.seq ?_)
              -- mq: region
              have hp := hpos (b.r4, b.c4) (by simp [BlkV.pos])
              refine CW.drawU [0, 1, 2, 3, 4, 6, 7, 8, 9] 4 [[(5, false, []), (10, false, []), (11, false, []), (12, false, [13])]] (Ch [blk g1 b.cells 26]) mixed (by kernel_rfl) (fun _ hw => hw.drew) (fun _ h => (by first | trivial | exact h | exact h.ch | exact (h.rem Rem.head).ch | exact ((h.rem Rem.head).rem Rem.head).ch | exact (((h.rem Rem.head).rem Rem.head).rem Rem.head).ch)) ?_
              refine QuP.cons rfl (fun wq hq => (RW.move rfl rfl RW.jn)) ?_
              refine QuP.cons rfl (fun wq hq => (RW.move rfl rfl RW.jn)) ?_
              refine QuP.cons rfl (fun wq hq => (RW.nilChk rfl rfl RW.jn)) ?_
              refine QuP.cons rfl (fun wq hq => (RW.fieldB fl24x0 rfl rfl RW.jn)) ?_
              refine QuP.cons rfl (fun wq hq => (RW.load1 sc3 rfl rfl (fun w1 e1 => by subst e1; exact hq.blk_cell (by first | exact Has.head | exact Has.tail Has.head | exact Has.tail (Has.tail Has.head) | exact Has.tail (Has.tail (Has.tail Has.head)) | exact Has.tail (Has.tail (Has.tail (Has.tail Has.head))) | exact Has.tail (Has.tail (Has.tail (Has.tail (Has.tail Has.head)))) | exact Has.tail (Has.tail (Has.tail (Has.tail (Has.tail (Has.tail Has.head)))))) rfl) RW.jn)) ?_
              refine QuP.cons rfl (fun wq hq => (RW.move rfl rfl RW.jn)) ?_
              refine QuP.cons rfl (fun wq hq => (RW.nilChk rfl rfl RW.jn)) ?_
              refine QuP.cons rfl (fun wq hq => (RW.fieldB fl24x1 rfl rfl RW.jn)) ?_
              refine QuP.cons rfl (fun wq hq => (RW.load1 sc3 rfl rfl (fun w1 e1 => by subst e1; exact hq.blk_cell (by first | exact Has.head | exact Has.tail Has.head | exact Has.tail (Has.tail Has.head) | exact Has.tail (Has.tail (Has.tail Has.head)) | exact Has.tail (Has.tail (Has.tail (Has.tail Has.head))) | exact Has.tail (Has.tail (Has.tail (Has.tail (Has.tail Has.head)))) | exact Has.tail (Has.tail (Has.tail (Has.tail (Has.tail (Has.tail Has.head)))))) rfl) RW.jn)) ?_
              refine QuP.nil ?_
              refine UW.step [_] rfl (List.forall_mem_cons.2 ⟨?_, by simp⟩)
              refine RW.call rfl caItoa rfl (fun w' hw' => itoa_c w' (hg.ext hw'.ext) b.r4 hp.1) ?_
              refine RW.st (fun _ => True) (fun _ h => .inr (by first | trivial | exact h | exact h.ch | exact (h.rem Rem.head).ch | exact ((h.rem Rem.head).rem Rem.head).ch | exact (((h.rem Rem.head).rem Rem.head).rem Rem.head).ch)) (fun _ h => trivial) ?_
              refine QuP.nil ?_
              refine UW.step [_] rfl (List.forall_mem_cons.2 ⟨?_, by simp⟩)
              refine RW.call rfl caItoa rfl (fun w' hw' => itoa_c w' (hg.ext hw'.ext) b.c4 hp.2) ?_
              refine RW.st (fun _ => True) (fun _ h => .inr ⟨.inr (by first | trivial | exact h | exact h.ch | exact (h.rem Rem.head).ch | exact ((h.rem Rem.head).rem Rem.head).ch | exact (((h.rem Rem.head).rem Rem.head).rem Rem.head).ch), trivial⟩) (fun _ h => trivial) ?_
              refine QuP.nil ?_
              refine UW.step [_] rfl (List.forall_mem_cons.2 ⟨?_, by simp⟩)
              refine RW.buildSlc sl33 rfl rfl rfl rfl (fun g49 hg49 hf49 => ?_)
              refine RW.st (fun _ => True) (fun _ h => .inr ⟨.inr ⟨.inr (by first | trivial | exact h | exact h.ch | exact (h.rem Rem.head).ch | exact ((h.rem Rem.head).rem Rem.head).ch | exact (((h.rem Rem.head).rem Rem.head).rem Rem.head).ch), trivial⟩, trivial⟩) (fun _ h => trivial) ?_
              refine QuP.nil ?_
              refine UW.step [_] rfl (List.forall_mem_cons.2 ⟨?_, by simp⟩)
              refine RW.append1 sl33 rfl rfl rfl (by first | exact Rem.head | exact Rem.tail Rem.head | exact Rem.tail (Rem.tail Rem.head) | exact Rem.tail (Rem.tail (Rem.tail Rem.head)) | exact Rem.tail (Rem.tail (Rem.tail (Rem.tail Rem.head))) | exact Rem.tail (Rem.tail (Rem.tail (Rem.tail (Rem.tail Rem.head)))) | exact Rem.tail (Rem.tail (Rem.tail (Rem.tail (Rem.tail (Rem.tail Rem.head)))))) (fun _ => by first | exact Upd.head | exact Upd.tail Upd.head | exact Upd.tail (Upd.tail Upd.head) | exact Upd.tail (Upd.tail (Upd.tail Upd.head)) | exact Upd.tail (Upd.tail (Upd.tail (Upd.tail Upd.head))) | exact Upd.tail (Upd.tail (Upd.tail (Upd.tail (Upd.tail Upd.head)))) | exact Upd.tail (Upd.tail (Upd.tail (Upd.tail (Upd.tail (Upd.tail Upd.head)))))) rfl (by repeat (first | exact Ones.nil | exact Enc.ones _ _ | refine Ones.cons rfl ?_)) (by simp only [maxLen]; omega) (by omega) (fun v50 hv50 => ?_)
              refine RW.st (fun _ => True) (fun _ h => .inr ⟨.inr ⟨.inr ⟨.inr (by first | trivial | exact h | exact h.ch | exact (h.rem Rem.head).ch | exact ((h.rem Rem.head).rem Rem.head).ch | exact (((h.rem Rem.head).rem Rem.head).rem Rem.head).ch), trivial⟩, trivial⟩, trivial⟩) (fun _ h => trivial) ?_
              refine QuP.cons rfl (fun wq hq => (RW.assign rfl rfl RW.jn)) ?_
              refine QuP.nil ?_
              refine UW.nil (EX.bkN (EX.seq (CW.region ?_)))
              refine RW.add rfl rfl rfl (wrap64 (by omega) (by omega)) ?_
              refine RW.move rfl rfl ?_
              refine RW.nil ?_
              -- mq: loopend
              refine EX.lpN (4, v50) (by dsimp only; omega) (by dsimp only; omega) (by repeat (first | exact Sub.nil | refine Sub.cons (by rfl) ?_)) (fun w' hw' => ?_)
              dsimp only
              rw [estr_step (b := b) (k := 3) (p := (b.r4, b.c4)) rfl]
              exact hw'
            · skip
              refine CW.skip (EX.seq (CW.seq (CW.block (CW.seq (CW.region ?_)))))
              refine RW.ixValS (q := 4) Tryd.underlying56 sc55 rfl rfl rfl (by omega) (by omega) rfl ?_
              -- mq: at
              refine RW.assign rfl rfl ?_
              refine RW.nil (EX.seq ?_)
              -- mq: region
              have hp := hpos (b.r5, b.c5) (by simp [BlkV.pos])
              refine CW.drawU [0, 1, 2, 3, 4, 6, 7, 8, 9] 4 [[(5, false, []), (10, false, []), (11, false, []), (12, false, [13])]] (Ch [blk g1 b.cells 26]) mixed (by kernel_rfl) (fun _ hw => hw.drew) (fun _ h => (by first | trivial | exact h | exact h.ch | exact (h.rem Rem.head).ch | exact ((h.rem Rem.head).rem Rem.head).ch | exact (((h.rem Rem.head).rem Rem.head).rem Rem.head).ch)) ?_
              refine QuP.cons rfl (fun wq hq => (RW.move rfl rfl RW.jn)) ?_
              refine QuP.cons rfl (fun wq hq => (RW.move rfl rfl RW.jn)) ?_
              refine QuP.cons rfl (fun wq hq => (RW.nilChk rfl rfl RW.jn)) ?_
              refine QuP.cons rfl (fun wq hq => (RW.fieldB fl24x0 rfl rfl RW.jn)) ?_
              refine QuP.cons rfl (fun wq hq => (RW.load1 sc3 rfl rfl (fun w1 e1 => by subst e1; exact hq.blk_cell (by first | exact Has.head | exact Has.tail Has.head | exact Has.tail (Has.tail Has.head) | exact Has.tail (Has.tail (Has.tail Has.head)) | exact Has.tail (Has.tail (Has.tail (Has.tail Has.head))) | exact Has.tail (Has.tail (Has.tail (Has.tail (Has.tail Has.head)))) | exact Has.tail (Has.tail (Has.tail (Has.tail (Has.tail (Has.tail Has.head)))))) rfl) RW.jn)) ?_
              refine QuP.cons rfl (fun wq hq => (RW.move rfl rfl RW.jn)) ?_
              refine QuP.cons rfl (fun wq hq => (RW.nilChk rfl rfl RW.jn)) ?_
              refine QuP.cons rfl (fun wq hq => (RW.fieldB fl24x1 rfl rfl RW.jn)) ?_
              refine QuP.cons rfl (fun wq hq => (RW.load1 sc3 rfl rfl (fun w1 e1 => by subst e1; exact hq.blk_cell (by first | exact Has.head | exact Has.tail Has.head | exact Has.tail (Has.tail Has.head) | exact Has.tail (Has.tail (Has.tail Has.head)) | exact Has.tail (Has.tail (Has.tail (Has.tail Has.head))) | exact Has.tail (Has.tail (Has.tail (Has.tail (Has.tail Has.head)))) | exact Has.tail (Has.tail (Has.tail (Has.tail (Has.tail (Has.tail Has.head)))))) rfl) RW.jn)) ?_
              refine QuP.nil ?_
              refine UW.step [_] rfl (List.forall_mem_cons.2 ⟨?_, by simp⟩)
              refine RW.call rfl caItoa rfl (fun w' hw' => itoa_c w' (hg.ext hw'.ext) b.r5 hp.1) ?_
              refine RW.st (fun _ => True) (fun _ h => .inr (by first | trivial | exact h | exact h.ch | exact (h.rem Rem.head).ch | exact ((h.rem Rem.head).rem Rem.head).ch | exact (((h.rem Rem.head).rem Rem.head).rem Rem.head).ch)) (fun _ h => trivial) ?_
              refine QuP.nil ?_
              refine UW.step [_] rfl (List.forall_mem_cons.2 ⟨?_, by simp⟩)
              refine RW.call rfl caItoa rfl (fun w' hw' => itoa_c w' (hg.ext hw'.ext) b.c5 hp.2) ?_
              refine RW.st (fun _ => True) (fun _ h => .inr ⟨.inr (by first | trivial | exact h | exact h.ch | exact (h.rem Rem.head).ch | exact ((h.rem Rem.head).rem Rem.head).ch | exact (((h.rem Rem.head).rem Rem.head).rem Rem.head).ch), trivial⟩) (fun _ h => trivial) ?_
              refine QuP.nil ?_
              refine UW.step [_] rfl (List.forall_mem_cons.2 ⟨?_, by simp⟩)
              refine RW.buildSlc sl33 rfl rfl rfl rfl (fun g49 hg49 hf49 => ?_)
              refine RW.st (fun _ => True) (fun _ h => .inr ⟨.inr ⟨.inr (by first | trivial | exact h | exact h.ch | exact (h.rem Rem.head).ch | exact ((h.rem Rem.head).rem Rem.head).ch | exact (((h.rem Rem.head).rem Rem.head).rem Rem.head).ch), trivial⟩, trivial⟩) (fun _ h => trivial) ?_
              refine QuP.nil ?_
              refine UW.step [_] rfl (List.forall_mem_cons.2 ⟨?_, by simp⟩)
              refine RW.append1 sl33 rfl rfl rfl (by first | exact Rem.head | exact Rem.tail Rem.head | exact Rem.tail (Rem.tail Rem.head) | exact Rem.tail (Rem.tail (Rem.tail Rem.head)) | exact Rem.tail (Rem.tail (Rem.tail (Rem.tail Rem.head))) | exact Rem.tail (Rem.tail (Rem.tail (Rem.tail (Rem.tail Rem.head)))) | exact Rem.tail (Rem.tail (Rem.tail (Rem.tail (Rem.tail (Rem.tail Rem.head)))))) (fun _ => by first | exact Upd.head | exact Upd.tail Upd.head | exact Upd.tail (Upd.tail Upd.head) | exact Upd.tail (Upd.tail (Upd.tail Upd.head)) | exact Upd.tail (Upd.tail (Upd.tail (Upd.tail Upd.head))) | exact Upd.tail (Upd.tail (Upd.tail (Upd.tail (Upd.tail Upd.head)))) | exact Upd.tail (Upd.tail (Upd.tail (Upd.tail (Upd.tail (Upd.tail Upd.head)))))) rfl (by repeat (first | exact Ones.nil | exact Enc.ones _ _ | refine Ones.cons rfl ?_)) (by simp only [maxLen]; omega) (by omega) (fun v50 hv50 => ?_)
              refine RW.st (fun _ => True) (fun _ h => .inr ⟨.inr ⟨.inr ⟨.inr (by first | trivial | exact h | exact h.ch | exact (h.rem Rem.head).ch | exact ((h.rem Rem.head).rem Rem.head).ch | exact (((h.rem Rem.head).rem Rem.head).rem Rem.head).ch), trivial⟩, trivial⟩, trivial⟩) (fun _ h => trivial) ?_
              refine QuP.cons rfl (fun wq hq => (RW.assign rfl rfl RW.jn)) ?_
              refine QuP.nil ?_
              refine UW.nil (EX.bkN (EX.seq (CW.region ?_)))
              refine RW.add rfl rfl rfl (wrap64 (by omega) (by omega)) ?_
              refine RW.move rfl rfl ?_
              refine RW.nil ?_
              -- mq: loopend
              refine EX.lpN (5, v50) (by dsimp only; omega) (by dsimp only; omega) (by repeat (first | exact Sub.nil | refine Sub.cons (by rfl) ?_)) (fun w' hw' => ?_)
              dsimp only
              rw [estr_step (b := b) (k := 4) (p := (b.r5, b.c5)) rfl]
              exact hw'
          · skip
            obtain rfl : k = 5 := by omega
            refine CW.exit (EX.seqE (EX.lpE (EX.bkE (EX.seq (CW.seq ?_)))))
            -- mq: region
            have hjl := lineF_len hb ht
            refine CW.drawU [0, 1, 2, 4, 5] 5 [[(3, false, []), (6, false, []), (7, false, []), (8, false, []), (9, false, [10, 11])]] (Ch [blk g1 b.cells 26]) mixed (by kernel_rfl) (fun _ hw => hw.drew) (fun _ h => (by first | trivial | exact h | exact h.ch | exact (h.rem Rem.head).ch | exact ((h.rem Rem.head).rem Rem.head).ch | exact (((h.rem Rem.head).rem Rem.head).rem Rem.head).ch)) ?_
            refine QuP.cons rfl (fun wq hq => (RW.move rfl rfl RW.jn)) ?_
            refine QuP.cons rfl (fun wq hq => (RW.fieldB fl26x10 rfl rfl RW.jn)) ?_
            refine QuP.cons rfl (fun wq hq => (RW.load1 sc9 rfl rfl (fun w1 e1 => by subst e1; exact hq.blk_cell (by first | exact Has.head | exact Has.tail Has.head | exact Has.tail (Has.tail Has.head) | exact Has.tail (Has.tail (Has.tail Has.head)) | exact Has.tail (Has.tail (Has.tail (Has.tail Has.head))) | exact Has.tail (Has.tail (Has.tail (Has.tail (Has.tail Has.head)))) | exact Has.tail (Has.tail (Has.tail (Has.tail (Has.tail (Has.tail Has.head)))))) rfl) RW.jn)) ?_
            refine QuP.cons rfl (fun wq hq => (RW.fieldB fl26x11 rfl rfl RW.jn)) ?_
            refine QuP.cons rfl (fun wq hq => (RW.load1 sc9 rfl rfl (fun w1 e1 => by subst e1; exact hq.blk_cell (by first | exact Has.head | exact Has.tail Has.head | exact Has.tail (Has.tail Has.head) | exact Has.tail (Has.tail (Has.tail Has.head)) | exact Has.tail (Has.tail (Has.tail (Has.tail Has.head))) | exact Has.tail (Has.tail (Has.tail (Has.tail (Has.tail Has.head)))) | exact Has.tail (Has.tail (Has.tail (Has.tail (Has.tail (Has.tail Has.head)))))) rfl) RW.jn)) ?_
            refine QuP.nil ?_
            refine UW.step [_] rfl (List.forall_mem_cons.2 ⟨?_, by simp⟩)
            refine RW.call rfl ca30 rfl (fun w' _ => data_c w' b.dir (by omega)) ?_
            refine RW.st (fun _ => True) (fun _ h => .inr (by first | trivial | exact h | exact h.ch | exact (h.rem Rem.head).ch | exact ((h.rem Rem.head).rem Rem.head).ch | exact (((h.rem Rem.head).rem Rem.head).rem Rem.head).ch)) (fun _ h => trivial) ?_
            refine QuP.nil ?_
            refine UW.step [_] rfl (List.forall_mem_cons.2 ⟨?_, by simp⟩)
            refine RW.call rfl ca30 rfl (fun w' _ => data_c w' b.line (by omega)) ?_
            refine RW.st (fun _ => True) (fun _ h => .inr ⟨.inr (by first | trivial | exact h | exact h.ch | exact (h.rem Rem.head).ch | exact ((h.rem Rem.head).rem Rem.head).ch | exact (((h.rem Rem.head).rem Rem.head).rem Rem.head).ch), trivial⟩) (fun _ h => trivial) ?_
            refine QuP.nil ?_
            refine UW.step [_] rfl (List.forall_mem_cons.2 ⟨?_, by simp⟩)
            refine RW.buildSlc sl33 rfl rfl rfl rfl (fun g59 hg59 hf59 => ?_)
            refine RW.st (fun _ => True) (fun _ h => .inr ⟨.inr ⟨.inr (by first | trivial | exact h | exact h.ch | exact (h.rem Rem.head).ch | exact ((h.rem Rem.head).rem Rem.head).ch | exact (((h.rem Rem.head).rem Rem.head).rem Rem.head).ch), trivial⟩, trivial⟩) (fun _ h => trivial) ?_
            refine QuP.nil ?_
            refine UW.step [_] rfl (List.forall_mem_cons.2 ⟨?_, by simp⟩)
            refine RW.append1 sl33 rfl rfl rfl (by first | exact Rem.head | exact Rem.tail Rem.head | exact Rem.tail (Rem.tail Rem.head) | exact Rem.tail (Rem.tail (Rem.tail Rem.head)) | exact Rem.tail (Rem.tail (Rem.tail (Rem.tail Rem.head))) | exact Rem.tail (Rem.tail (Rem.tail (Rem.tail (Rem.tail Rem.head)))) | exact Rem.tail (Rem.tail (Rem.tail (Rem.tail (Rem.tail (Rem.tail Rem.head)))))) (fun _ => by first | exact Upd.head | exact Upd.tail Upd.head | exact Upd.tail (Upd.tail Upd.head) | exact Upd.tail (Upd.tail (Upd.tail Upd.head)) | exact Upd.tail (Upd.tail (Upd.tail (Upd.tail Upd.head))) | exact Upd.tail (Upd.tail (Upd.tail (Upd.tail (Upd.tail Upd.head)))) | exact Upd.tail (Upd.tail (Upd.tail (Upd.tail (Upd.tail (Upd.tail Upd.head)))))) rfl (by repeat (first | exact Ones.nil | exact Enc.ones _ _ | refine Ones.cons rfl ?_)) (by simp only [maxLen]; omega) (by omega) (fun v60 hv60 => ?_)
            refine RW.st (fun _ => True) (fun _ h => .inr ⟨.inr ⟨.inr ⟨.inr (by first | trivial | exact h | exact h.ch | exact (h.rem Rem.head).ch | exact ((h.rem Rem.head).rem Rem.head).ch | exact (((h.rem Rem.head).rem Rem.head).rem Rem.head).ch), trivial⟩, trivial⟩, trivial⟩) (fun _ h => trivial) ?_
            refine QuP.nil ?_
            refine UW.step [_] rfl (List.forall_mem_cons.2 ⟨?_, by simp⟩)
            refine RW.call rfl caJoin rfl (fun w' hw' => join_c w' _ _ _ (wordsF b) [32] (by have := hw'.has Has.head; rw [wordsF_w5, Enc.all_append]; exact this) (wordsF_len b) (by decide) (by show (lineF b).length ≤ _; omega)) ?_
            refine RW.st (fun _ => True) (fun _ h => .inr ⟨.inr ⟨.inr ⟨.inr ⟨.inr (by first | trivial | exact h | exact h.ch | exact (h.rem Rem.head).ch | exact ((h.rem Rem.head).rem Rem.head).ch | exact (((h.rem Rem.head).rem Rem.head).rem Rem.head).ch), trivial⟩, trivial⟩, trivial⟩, trivial⟩) (fun _ h => trivial) ?_
            refine QuP.cons rfl (fun wq hq => (RW.assign rfl rfl RW.jn)) ?_
            refine QuP.cons rfl (fun wq hq => (RW.assign rfl rfl RW.jn)) ?_
            refine QuP.nil ?_
            refine UW.nil (EX.seq (CW.ret ?_))
            refine EX.fin2 Tryd.results15 rfl rfl (fun wz hw => ?_)
            -- mq: done
            exact ⟨by rw [lineR, if_pos ht]; rfl, hw.ext⟩
end Go.Proofs.YtnkdabjahmjdoaaDoor.Mq
