/- dump: the walk of the reference's Brief -/
import Derived.Test.YtnkdabjahmjdoaaDoorD3
namespace Go.Proofs.YtnkdabjahmjdoaaDoor.Mq
open Go Go.RowKit Go.Proofs

theorem dot_take {l : List UInt8} {k : Nat} {c : UInt8} (h : l[k]? = some c) : (l.take (k + 1)).map dotC = (l.take k).map dotC ++ [dotC c] := by
  rw [List.take_add_one, h]; simp
theorem refBrief_c (w : World) (b : BlkV) (hb : b.Wf) (hl : b.line.length ≤ 1000000) :
    Calls Tryd.prog 13 [.agg b.cells.toArray].toArray w (fun e w' => e = .returned (.string (bs (briefF b))) ∧ Ext [] w w') := by
  have hd := dec_len20 hb.id
  have hp := phW_len b.ph
  have hc := itoa_len hb.code
  have hb1 := brief1_len hb
  have hb2 := brief2_len hb
  refine calls (n := 70) Tryd.func13 rfl Tryd.ntmps13 rfl ?_
  refine CW.sub (H' := SH w [] []) ?_ (Sub.refl _) (fun x hx => SH.start' _ _ hx)
  refine CW.seq (CW.region ?_)
  refine RW.boxA rfl rfl (fun g1 hg1 hf1 => ?_)
  refine RW.assign rfl rfl ?_
  refine RW.nil (EX.seq (CW.seq (CW.region ?_)))
  refine RW.assign rfl rfl ?_
  refine RW.nil (EX.seq (CW.seq ?_))
  -- mq: seq
  have hcv : ∀ x ∈ feet [blk g1 b.cells 26], x < w.heap.size → x ∈ ([] : List Nat) := fun x hx hlt => by
    rw [show x = g1 by simpa [feet, blk] using hx] at hlt; omega
  refine CW.joinI (fun _ : World => [(1, .pointer (some ⟨g1, 0, none⟩)), (3, .string (bs (phW b.ph)))]) (fun w1 => SH w1 (feet [blk g1 b.cells 26]) [blk g1 b.cells 26]) (fun w1 => Ext [] w w1) ?_ ?_
  · skip
    refine CW.seq (CW.region ?_)
    refine RW.fieldB fl26x1 rfl rfl ?_
    refine RW.loadB1 sc3 rfl rfl (by first | exact Has.head | exact Has.tail Has.head | exact Has.tail (Has.tail Has.head) | exact Has.tail (Has.tail (Has.tail Has.head)) | exact Has.tail (Has.tail (Has.tail (Has.tail Has.head))) | exact Has.tail (Has.tail (Has.tail (Has.tail (Has.tail Has.head)))) | exact Has.tail (Has.tail (Has.tail (Has.tail (Has.tail (Has.tail Has.head)))))) rfl ?_
    refine RW.geq rfl rfl rfl ?_
    refine RW.move rfl rfl ?_
    -- mq: guard slot 9
    refine RW.casesB 9 rfl (fun h1 => ?_) (fun h1 => ?_)
    · skip
      have h1p := of_decide_eq_true h1
      refine RW.guardT rfl rfl h1 ?_
      refine RW.fieldB fl26x1 rfl rfl ?_
      refine RW.guardT rfl rfl h1 ?_
      refine RW.loadB1 sc3 rfl rfl (by first | exact Has.head | exact Has.tail Has.head | exact Has.tail (Has.tail Has.head) | exact Has.tail (Has.tail (Has.tail Has.head)) | exact Has.tail (Has.tail (Has.tail (Has.tail Has.head))) | exact Has.tail (Has.tail (Has.tail (Has.tail (Has.tail Has.head)))) | exact Has.tail (Has.tail (Has.tail (Has.tail (Has.tail (Has.tail Has.head)))))) rfl ?_
      refine RW.guardT rfl rfl h1 ?_
      refine RW.leq rfl rfl rfl ?_
      refine RW.pickB rfl rfl h1 rfl ?_
      refine RW.nil (EX.seq ?_)
      -- mq: cond
      first | refine CW.condD rfl (fun h2 => ?_) (fun h2 => ?_) | refine CW.cond rfl (fun h2 => ?_) (fun h2 => ?_)
      · skip
        obtain ⟨q, hq⟩ : ∃ q : Nat, b.ph = q := ⟨b.ph.toNat, by omega⟩
        have hat : phasesL[q]? = some (phaseW b.ph) := by rw [hq]; exact phasesL_at (by omega)
        rw [show phW b.ph = phaseW b.ph from if_pos (by omega)]
        refine CW.drawU [1, 2] 2 [[(0, false, [3]), (4, false, [5])]] (Ch [blk g1 b.cells 26]) mixed (by kernel_rfl) (fun _ hw => hw.drew) (fun _ h => (by first | trivial | exact h | exact h.ch | exact (h.rem Rem.head).ch | exact ((h.rem Rem.head).rem Rem.head).ch | exact (((h.rem Rem.head).rem Rem.head).rem Rem.head).ch)) ?_
        refine QuP.cons rfl (fun wq hq => (RW.fieldB fl26x1 rfl rfl RW.jn)) ?_
        refine QuP.cons rfl (fun wq hq => (RW.load1 sc3 rfl rfl (fun w1 e1 => by subst e1; exact hq.blk_cell (by first | exact Has.head | exact Has.tail Has.head | exact Has.tail (Has.tail Has.head) | exact Has.tail (Has.tail (Has.tail Has.head)) | exact Has.tail (Has.tail (Has.tail (Has.tail Has.head))) | exact Has.tail (Has.tail (Has.tail (Has.tail (Has.tail Has.head)))) | exact Has.tail (Has.tail (Has.tail (Has.tail (Has.tail (Has.tail Has.head)))))) rfl) RW.jn)) ?_
        refine QuP.nil ?_
        refine UW.step [_] rfl (List.forall_mem_cons.2 ⟨?_, by simp⟩)
        -- mq: op 0: ('Op.call', ('Call.mk', ('Callee.value', ('Operand.func', '14')), ('arr',), ('arr',))) -> slot 14 ("ref.go:148")
        refine RW.callK rfl ca14 rfl (fun w' _ => phases_c w') (fun w0 w1 A9 n9 c9 hw0 he01 hw1 hlt9 hrd9 => ?_)
        have hn9 : n9 = 5 := hrd9.len.symm
        have hx1 : Ext [] w w1 := hw0.ext.trans0 he01
        obtain ⟨ad, hA, had, hcell⟩ := hrd9.at_ hat
        refine RW.st (fun _ => True) (fun _ h => .inr (by first | trivial | exact h | exact h.ch | exact (h.rem Rem.head).ch | exact ((h.rem Rem.head).rem Rem.head).ch | exact (((h.rem Rem.head).rem Rem.head).rem Rem.head).ch)) (fun _ h => trivial) ?_
        refine QuP.cons rfl (fun wq hq => (RW.ixAddr (q := q) sl33 rfl rfl rfl (by first | rfl | assumption) (by omega) (by omega) RW.jn)) ?_
        refine QuP.nil ?_
        refine UW.step [_] rfl (List.forall_mem_cons.2 ⟨?_, by simp⟩)
        -- mq: op 4: ('Op.load', '9', ('Operand.tmp', '17')) -> slot 18 ("ref.go:148")
        refine RW.load1 sc9 rfl rfl (fun w' hw' => hw'.base_cell (hcell 0 _ rfl) (fun hk2 => by have := hlt9 _ hk2; have : w0.heap.size ≤ ad.block := had; simp only [block_add] at *; omega)) ?_
        refine RW.st (fun _ => True) (fun _ h => .inr ⟨.inr (by first | trivial | exact h | exact h.ch | exact (h.rem Rem.head).ch | exact ((h.rem Rem.head).rem Rem.head).ch | exact (((h.rem Rem.head).rem Rem.head).rem Rem.head).ch), trivial⟩) (fun _ h => trivial) ?_
        refine QuP.cons rfl (fun wq hq => (RW.assign rfl rfl RW.jn)) ?_
        refine QuP.nil ?_
        refine UW.nil ?_
        -- mq: joinend
        exact fun wz hwz => ⟨wz, (hwz.unbase hx1 hcv).ext, (by repeat (first | exact Sub.nil | refine Sub.cons (by rfl) ?_)), hwz.rebase⟩
      · skip
        refine CW.skip ?_
        -- mq: joinend
        rw [show phW b.ph = [63] from if_neg (by omega)]
        exact fun wz hwz => ⟨wz, hwz.ext, (by repeat (first | exact Sub.nil | refine Sub.cons (by rfl) ?_)), hwz.rebase⟩
    · skip
      have h1p := of_decide_eq_false h1
      refine RW.guardF rfl rfl rfl h1 ?_
      refine RW.guardF rfl rfl rfl h1 ?_
      refine RW.guardF rfl rfl rfl h1 ?_
      refine RW.pickC rfl rfl h1 rfl ?_
      refine RW.nil (EX.seq ?_)
      -- mq: cond
      refine CW.condF rfl (rfl) ?_
      refine CW.skip ?_
      -- mq: joinend
      rw [show phW b.ph = [63] from if_neg (by omega)]
      exact fun wz hwz => ⟨wz, hwz.ext, (by repeat (first | exact Sub.nil | refine Sub.cons (by rfl) ?_)), hwz.rebase⟩
  · skip
    intro w1 hx1
    refine EX.seq (CW.seq (CW.region ?_))
    refine RW.fieldB fl26x0 rfl rfl ?_
    refine RW.loadB1 sc22 rfl rfl (by first | exact Has.head | exact Has.tail Has.head | exact Has.tail (Has.tail Has.head) | exact Has.tail (Has.tail (Has.tail Has.head)) | exact Has.tail (Has.tail (Has.tail (Has.tail Has.head))) | exact Has.tail (Has.tail (Has.tail (Has.tail (Has.tail Has.head)))) | exact Has.tail (Has.tail (Has.tail (Has.tail (Has.tail (Has.tail Has.head)))))) rfl ?_
    refine RW.call rfl ca25 rfl (fun w' _ => refId_c b.id w' b.id (Nat.le_refl _) hb.id) ?_
    refine RW.catS rfl rfl rfl (by first | omega | (simp only [List.length_append, List.length_cons, List.length_nil]; omega)) ?_
    refine RW.catS rfl rfl rfl (by first | omega | (simp only [List.length_append, List.length_cons, List.length_nil]; omega)) ?_
    refine RW.move rfl rfl ?_
    refine RW.catS rfl rfl rfl (by first | omega | (simp only [List.length_append, List.length_cons, List.length_nil]; omega)) ?_
    refine RW.assign rfl rfl ?_
    refine RW.nil (EX.seq (CW.seq ?_))
    -- mq: seq
    refine CW.join ([(1, .pointer (some ⟨g1, 0, none⟩)), (4, .string (bs (brief2 b)))]) (SH w1 (feet [blk g1 b.cells 26]) [blk g1 b.cells 26]) ?_ ?_
    · skip
      refine CW.seq (CW.region ?_)
      refine RW.fieldB fl26x8 rfl rfl ?_
      refine RW.loadB1 sc4 rfl rfl (by first | exact Has.head | exact Has.tail Has.head | exact Has.tail (Has.tail Has.head) | exact Has.tail (Has.tail (Has.tail Has.head)) | exact Has.tail (Has.tail (Has.tail (Has.tail Has.head))) | exact Has.tail (Has.tail (Has.tail (Has.tail (Has.tail Has.head)))) | exact Has.tail (Has.tail (Has.tail (Has.tail (Has.tail (Has.tail Has.head)))))) rfl ?_
      refine RW.nil (EX.seq ?_)
      -- mq: cond
      first | refine CW.condD rfl (fun h2 => ?_) (fun h2 => ?_) | refine CW.cond rfl (fun h2 => ?_) (fun h2 => ?_)
      · skip
        refine CW.region ?_
        refine RW.move rfl rfl ?_
        refine RW.catS rfl rfl rfl (by first | omega | (simp only [List.length_append, List.length_cons, List.length_nil]; omega)) ?_
        refine RW.fieldB fl26x7 rfl rfl ?_
        refine RW.loadB1 sc3 rfl rfl (by first | exact Has.head | exact Has.tail Has.head | exact Has.tail (Has.tail Has.head) | exact Has.tail (Has.tail (Has.tail Has.head)) | exact Has.tail (Has.tail (Has.tail (Has.tail Has.head))) | exact Has.tail (Has.tail (Has.tail (Has.tail (Has.tail Has.head)))) | exact Has.tail (Has.tail (Has.tail (Has.tail (Has.tail (Has.tail Has.head)))))) rfl ?_
        refine RW.call rfl ca26 rfl (fun w' _ => refNumber_c w' b.code hb.code) ?_
        refine RW.catS rfl rfl rfl (by first | omega | (simp only [List.length_append, List.length_cons, List.length_nil]; omega)) ?_
        refine RW.assign rfl rfl ?_
        refine RW.nil ?_
        -- mq: joinend
        rw [brief2, if_pos h2, show brief1 b ++ 32 :: Lib.itoa b.code = brief1 b ++ [32] ++ Lib.itoa b.code by simp]
        exact EX.jn (by repeat (first | exact Sub.nil | refine Sub.cons (by rfl) ?_)) (fun _ h => h)
      · skip
        refine CW.skip ?_
        -- mq: joinend
        rw [brief2, if_neg (by simp [h2]), List.append_nil]
        exact EX.jn (by repeat (first | exact Sub.nil | refine Sub.cons (by rfl) ?_)) (fun _ h => h)
    · skip
      refine EX.seq (CW.seq (CW.seq (CW.region ?_)))
      refine RW.fieldB fl26x11 rfl rfl ?_
      refine RW.loadB1 sc9 rfl rfl (by first | exact Has.head | exact Has.tail Has.head | exact Has.tail (Has.tail Has.head) | exact Has.tail (Has.tail (Has.tail Has.head)) | exact Has.tail (Has.tail (Has.tail (Has.tail Has.head))) | exact Has.tail (Has.tail (Has.tail (Has.tail (Has.tail Has.head)))) | exact Has.tail (Has.tail (Has.tail (Has.tail (Has.tail (Has.tail Has.head)))))) rfl ?_
      refine RW.eqlS rfl rfl rfl ?_
      refine RW.nil (EX.seq ?_)
      -- mq: cond
      first | refine CW.condD rfl (fun h3 => ?_) (fun h3 => ?_) | refine CW.cond rfl (fun h3 => ?_) (fun h3 => ?_)
      · skip
        refine CW.seq (CW.region ?_)
        refine RW.move rfl rfl ?_
        refine RW.assign rfl rfl ?_
        refine RW.nil (EX.seq (CW.ret (EX.seqR ?_)))
        refine EX.fin1 Tryd.results13 rfl (fun wz hw => ?_)
        -- mq: done
        exact ⟨by rw [briefF, if_pos h3, List.append_nil], (hw.unbase hx1 hcv).ext⟩
      · skip
        refine CW.skip (EX.seq (CW.seq (CW.region ?_)))
        refine RW.move rfl rfl ?_
        refine RW.catS rfl rfl rfl (by first | omega | (simp only [List.length_append, List.length_cons, List.length_nil]; omega)) ?_
        refine RW.assign rfl rfl ?_
        refine RW.nil (EX.seq (CW.seq (CW.seq (CW.region ?_))))
        refine RW.assign rfl rfl ?_
        refine RW.nil (EX.seq (CW.block ?_))
        -- mq: loop
        refine CW.loop (ι := Nat) (fun i => [(1, .pointer (some ⟨g1, 0, none⟩)), (4, .string (bs (brief2 b ++ [32] ++ (b.line.take i).map dotC))), (5, .int .i64 (i : Int))]) (fun _ => SH w1 (feet [blk g1 b.cells 26]) [blk g1 b.cells 26]) (fun i => i ≤ b.line.length) (fun i => b.line.length - i) ?_ ?_
        · refine fun w' hw' => ⟨0, Nat.zero_le _, ?_, hw'⟩
          rw [List.take_zero, List.map_nil, List.append_nil]
          exact (by repeat (first | exact Sub.nil | refine Sub.cons (by rfl) ?_))
        · rintro i hi
          have hml : ((b.line.take i).map dotC).length = i := by rw [List.length_map, List.length_take]; omega
          refine CW.seq (CW.seq (CW.region ?_))
          refine RW.move rfl rfl ?_
          refine RW.fieldB fl26x11 rfl rfl ?_
          refine RW.loadB1 sc9 rfl rfl (by first | exact Has.head | exact Has.tail Has.head | exact Has.tail (Has.tail Has.head) | exact Has.tail (Has.tail (Has.tail Has.head)) | exact Has.tail (Has.tail (Has.tail (Has.tail Has.head))) | exact Has.tail (Has.tail (Has.tail (Has.tail (Has.tail Has.head)))) | exact Has.tail (Has.tail (Has.tail (Has.tail (Has.tail (Has.tail Has.head)))))) rfl ?_
          refine RW.lenS Tryd.underlying9 rfl rfl ?_
          refine RW.lss rfl rfl rfl ?_
          refine RW.nil (EX.seq ?_)
          -- mq: cond
          first | refine CW.condD rfl (fun hlt => ?_) (fun hlt => ?_) | refine CW.cond rfl (fun hlt => ?_) (fun hlt => ?_)
          · skip
            obtain ⟨c, hc1⟩ : ∃ c, b.line[i]? = some c := ⟨b.line[i]'(by omega), List.getElem?_eq_getElem _⟩
            have hc8 := UInt8.toNat_lt c
            have hdt := dot_take hc1
            refine CW.skip (EX.seq (CW.seq (CW.block (CW.seq (CW.region ?_)))))
            refine RW.fieldB fl26x11 rfl rfl ?_
            refine RW.loadB1 sc9 rfl rfl (by first | exact Has.head | exact Has.tail Has.head | exact Has.tail (Has.tail Has.head) | exact Has.tail (Has.tail (Has.tail Has.head)) | exact Has.tail (Has.tail (Has.tail (Has.tail Has.head))) | exact Has.tail (Has.tail (Has.tail (Has.tail (Has.tail Has.head)))) | exact Has.tail (Has.tail (Has.tail (Has.tail (Has.tail (Has.tail Has.head)))))) rfl ?_
            refine RW.move rfl rfl ?_
            refine RW.ixStr (q := i) Tryd.underlying9 rfl rfl rfl (by omega) hc1 ?_
            refine RW.lss rfl rfl rfl ?_
            refine RW.move rfl rfl ?_
            -- mq: guard slot 52
            refine RW.casesB 52 rfl (fun h4 => ?_) (fun h4 => ?_)
            · skip
              have h4p := of_decide_eq_true h4
              refine RW.guardF rfl rfl rfl h4 ?_
              refine RW.guardF rfl rfl rfl h4 ?_
              refine RW.guardF rfl rfl rfl h4 ?_
              refine RW.guardF rfl rfl rfl h4 ?_
              refine RW.guardF rfl rfl rfl h4 ?_
              refine RW.pickB rfl rfl h4 rfl ?_
              refine RW.nil (EX.seq ?_)
              -- mq: cond
              refine CW.condT rfl (rfl) ?_
              refine CW.region ?_
              refine RW.move rfl rfl ?_
              refine RW.catS rfl rfl rfl (by first | omega | (simp only [List.length_append, List.length_cons, List.length_nil]; omega)) ?_
              refine RW.assign rfl rfl ?_
              refine RW.nil (EX.bkN (EX.seq (CW.region ?_)))
              refine RW.move rfl rfl ?_
              refine RW.add rfl rfl rfl (wrap64 (by omega) (by omega)) ?_
              refine RW.assign rfl rfl ?_
              refine RW.nil ?_
              -- mq: loopend
              rw [dotC, if_pos (.inl (by omega))] at hdt
              exact EX.lpN (i + 1) (by omega) (by omega) (by rw [hdt, ← List.append_assoc]; exact (by repeat (first | exact Sub.nil | refine Sub.cons (by rfl) ?_))) (fun w' hw' => hw')
            · skip
              have h4p := of_decide_eq_false h4
              refine RW.guardT rfl rfl h4 ?_
              refine RW.fieldB fl26x11 rfl rfl ?_
              refine RW.guardT rfl rfl h4 ?_
              refine RW.loadB1 sc9 rfl rfl (by first | exact Has.head | exact Has.tail Has.head | exact Has.tail (Has.tail Has.head) | exact Has.tail (Has.tail (Has.tail Has.head)) | exact Has.tail (Has.tail (Has.tail (Has.tail Has.head))) | exact Has.tail (Has.tail (Has.tail (Has.tail (Has.tail Has.head)))) | exact Has.tail (Has.tail (Has.tail (Has.tail (Has.tail (Has.tail Has.head)))))) rfl ?_
              refine RW.guardT rfl rfl h4 ?_
              refine RW.move rfl rfl ?_
              refine RW.guardT rfl rfl h4 ?_
              refine RW.ixStr (q := i) Tryd.underlying9 rfl rfl rfl (by omega) hc1 ?_
              refine RW.guardT rfl rfl h4 ?_
              refine RW.eqlI rfl rfl rfl ?_
              refine RW.pickC rfl rfl h4 rfl ?_
              refine RW.nil (EX.seq ?_)
              -- mq: cond
              first | refine CW.condD rfl (fun h5 => ?_) (fun h5 => ?_) | refine CW.cond rfl (fun h5 => ?_) (fun h5 => ?_)
              · skip
                refine CW.region ?_
                refine RW.move rfl rfl ?_
                refine RW.catS rfl rfl rfl (by first | omega | (simp only [List.length_append, List.length_cons, List.length_nil]; omega)) ?_
                refine RW.assign rfl rfl ?_
                refine RW.nil (EX.bkN (EX.seq (CW.region ?_)))
                refine RW.move rfl rfl ?_
                refine RW.add rfl rfl rfl (wrap64 (by omega) (by omega)) ?_
                refine RW.assign rfl rfl ?_
                refine RW.nil ?_
                -- mq: loopend
                rw [dotC, if_pos (.inr (by omega))] at hdt
                exact EX.lpN (i + 1) (by omega) (by omega) (by rw [hdt, ← List.append_assoc]; exact (by repeat (first | exact Sub.nil | refine Sub.cons (by rfl) ?_))) (fun w' hw' => hw')
              · skip
                have hcut : (b.line.take (i + 1)).drop i = [c] := by
                  rw [List.take_add_one, hc1, List.drop_append_of_le_length (by rw [List.length_take]; omega), List.drop_of_length_le (by rw [List.length_take]; omega)]; rfl
                have hcl : ((b.line.take (i + 1)).drop i).length = 1 := by rw [hcut]; rfl
                refine CW.region ?_
                refine RW.move rfl rfl ?_
                refine RW.fieldB fl26x11 rfl rfl ?_
                refine RW.loadB1 sc9 rfl rfl (by first | exact Has.head | exact Has.tail Has.head | exact Has.tail (Has.tail Has.head) | exact Has.tail (Has.tail (Has.tail Has.head)) | exact Has.tail (Has.tail (Has.tail (Has.tail Has.head))) | exact Has.tail (Has.tail (Has.tail (Has.tail (Has.tail Has.head)))) | exact Has.tail (Has.tail (Has.tail (Has.tail (Has.tail (Has.tail Has.head)))))) rfl ?_
                refine RW.move rfl rfl ?_
                refine RW.move rfl rfl ?_
                refine RW.add rfl rfl rfl (wrap64 (by omega) (by omega)) ?_
                refine RW.sliceStrLH i (i + 1) Tryd.underlying9 rfl rfl rfl rfl (by first | rfl | omega) (by first | rfl | omega) (by omega) (by first | omega | (simp; done) | (simp; omega)) ?_
                refine RW.catS rfl rfl rfl (by first | omega | (simp only [List.length_append, List.length_cons, List.length_nil]; omega)) ?_
                refine RW.assign rfl rfl ?_
                refine RW.nil (EX.bkN (EX.seq (CW.region ?_)))
                refine RW.move rfl rfl ?_
                refine RW.add rfl rfl rfl (wrap64 (by omega) (by omega)) ?_
                refine RW.assign rfl rfl ?_
                refine RW.nil ?_
                -- mq: loopend
                rw [dotC, if_neg (by omega), ← hcut] at hdt
                exact EX.lpN (i + 1) (by omega) (by omega) (by rw [hdt, ← List.append_assoc]; exact (by repeat (first | exact Sub.nil | refine Sub.cons (by rfl) ?_))) (fun w' hw' => hw')
          · skip
            obtain rfl : i = b.line.length := by omega
            refine CW.exit (EX.seqE (EX.lpE (EX.bkE (EX.seq (CW.seq (CW.region ?_))))))
            refine RW.move rfl rfl ?_
            refine RW.assign rfl rfl ?_
            refine RW.nil (EX.seq (CW.ret ?_))
            refine EX.fin1 Tryd.results13 rfl (fun wz hw => ?_)
            -- mq: done
            refine ⟨?_, (hw.unbase hx1 hcv).ext⟩
            rw [briefF, if_neg h3, List.take_length, List.append_assoc]
            rfl
end Go.Proofs.YtnkdabjahmjdoaaDoor.Mq
