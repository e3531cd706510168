/- dump: the walk of the reference's Brief; dump: the walk of Line (printed by gend5.py); dump: walks of great, awake, DumpBriefs, DumpApart -/
import Derived.Test.YtnkdabjahmjdoaaDoorD3
namespace Go.Proofs.YtnkdabjahmjdoaaDoor.Mq
open Go Go.RowKit Go.Proofs

theorem dot_take {l : List UInt8} {k : Nat} {c : UInt8} (h : l[k]? = some c) : (l.take (k + 1)).map dotC = (l.take k).map dotC ++ [dotC c] := by
  rw [List.take_add_one, h]; simp
theorem refBrief_c (w : World) (b : BlkV) (hb : b.Wf) (hl : b.line.length ≤ 1000000) :
    Calls Tryd.prog 13 [.agg b.cells.toArray].toArray w (fun e w' => e = .returned (.string (bs (briefF b))) ∧ Ext [] w w') := by
  have hd := dec_len20 hb.id
  have hp := phW_len b.ph
  have hc := itoa_len hb.code
  have hb1 := brief1_len hb
  have hb2 := brief2_len hb
  refine calls (n := 70) Tryd.func13 rfl Tryd.ntmps13 rfl ?_
  refine CW.sub (H' := SH w [] []) ?_ (Sub.refl _) (fun x hx => SH.start' _ _ hx)
  refine CW.seq (CW.region ?_)
  refine RW.boxA rfl rfl (fun g1 hg1 hf1 => ?_)
  refine RW.assign rfl rfl ?_
  refine RW.nil (EX.seq (CW.seq (CW.region ?_)))
  refine RW.assign rfl rfl ?_
  refine RW.nil (EX.seq (CW.seq ?_))
  -- mq: seq
  have hcv : ∀ x ∈ feet [blk g1 b.cells 26], x < w.heap.size → x ∈ ([] : List Nat) := fun x hx hlt => by
    rw [show x = g1 by simpa [feet, blk] using hx] at hlt; omega
  refine CW.joinI (fun _ : World => [(1, .pointer (some ⟨g1, 0, none⟩)), (3, .string (bs (phW b.ph)))]) (fun w1 => SH w1 (feet [blk g1 b.cells 26]) [blk g1 b.cells 26]) (fun w1 => Ext [] w w1) ?_ ?_
  · skip
    refine CW.seq (CW.region ?_)
    refine RW.fieldB fl26x1 rfl rfl ?_
    refine RW.loadB1 sc3 rfl rfl (by first | exact Has.head | exact Has.tail Has.head | exact Has.tail (Has.tail Has.head) | exact Has.tail (Has.tail (Has.tail Has.head)) | exact Has.tail (Has.tail (Has.tail (Has.tail Has.head))) | exact Has.tail (Has.tail (Has.tail (Has.tail (Has.tail Has.head)))) | exact Has.tail (Has.tail (Has.tail (Has.tail (Has.tail (Has.tail Has.head)))))) rfl ?_
    refine RW.geq rfl rfl rfl ?_
    refine RW.move rfl rfl ?_
    -- mq: guard slot 9
    refine RW.casesB 9 rfl (fun h1 => ?_) (fun h1 => ?_)
    · skip
      have h1p := of_decide_eq_true h1
      refine RW.guardT rfl rfl h1 ?_
      refine RW.fieldB fl26x1 rfl rfl ?_
      refine RW.guardT rfl rfl h1 ?_
      refine RW.loadB1 sc3 rfl rfl (by first | exact Has.head | exact Has.tail Has.head | exact Has.tail (Has.tail Has.head) | exact Has.tail (Has.tail (Has.tail Has.head)) | exact Has.tail (Has.tail (Has.tail (Has.tail Has.head))) | exact Has.tail (Has.tail (Has.tail (Has.tail (Has.tail Has.head)))) | exact Has.tail (Has.tail (Has.tail (Has.tail (Has.tail (Has.tail Has.head)))))) rfl ?_
      refine RW.guardT rfl rfl h1 ?_
      refine RW.leq rfl rfl rfl ?_
      refine RW.pickB rfl rfl h1 rfl ?_
      refine RW.nil (EX.seq ?_)
      -- mq: cond
      first | refine CW.condD rfl (fun h2 => ?_) (fun h2 => ?_) | refine CW.cond rfl (fun h2 => ?_) (fun h2 => ?_)
      · skip
        obtain ⟨q, hq⟩ : ∃ q : Nat, b.ph = q := ⟨b.ph.toNat, by omega⟩
        have hat : phasesL[q]? = some (phaseW b.ph) := by rw [hq]; exact phasesL_at (by omega)
        rw [show phW b.ph = phaseW b.ph from if_pos (by omega)]
        refine CW.drawU [1, 2] 2 [[(0, false, [3]), (4, false, [5])]] (Ch [blk g1 b.cells 26]) mixed (by kernel_rfl) (fun _ hw => hw.drew) (fun _ h => (by first | trivial | exact h | exact h.ch | exact (h.rem Rem.head).ch | exact ((h.rem Rem.head).rem Rem.head).ch | exact (((h.rem Rem.head).rem Rem.head).rem Rem.head).ch)) ?_
        refine QuP.cons rfl (fun wq hq => (RW.fieldB fl26x1 rfl rfl RW.jn)) ?_
        refine QuP.cons rfl (fun wq hq => (RW.load1 sc3 rfl rfl (fun w1 e1 => by subst e1; exact hq.blk_cell (by first | exact Has.head | exact Has.tail Has.head | exact Has.tail (Has.tail Has.head) | exact Has.tail (Has.tail (Has.tail Has.head)) | exact Has.tail (Has.tail (Has.tail (Has.tail Has.head))) | exact Has.tail (Has.tail (Has.tail (Has.tail (Has.tail Has.head)))) | exact Has.tail (Has.tail (Has.tail (Has.tail (Has.tail (Has.tail Has.head)))))) rfl) RW.jn)) ?_
        refine QuP.nil ?_
        refine UW.step [_] rfl (List.forall_mem_cons.2 ⟨?_, by simp⟩)
        -- mq: op 0: ('Op.call', ('Call.mk', ('Callee.value', ('Operand.func', '14')), ('arr',), ('arr',))) -> slot 14 ("ref.go:148")
        refine RW.callK rfl ca14 rfl (fun w' _ => phases_c w') (fun w0 w1 A9 n9 c9 hw0 he01 hw1 hlt9 hrd9 => ?_)
        have hn9 : n9 = 5 := hrd9.len.symm
        have hx1 : Ext [] w w1 := hw0.ext.trans0 he01
        obtain ⟨ad, hA, had, hcell⟩ := hrd9.at_ hat
        refine RW.st (fun _ => True) (fun _ h => .inr (by first | trivial | exact h | exact h.ch | exact (h.rem Rem.head).ch | exact ((h.rem Rem.head).rem Rem.head).ch | exact (((h.rem Rem.head).rem Rem.head).rem Rem.head).ch)) (fun _ h => trivial) ?_
        refine QuP.cons rfl (fun wq hq => (RW.ixAddr (q := q) sl33 rfl rfl rfl (by first | rfl | assumption) (by omega) (by omega) RW.jn)) ?_
        refine QuP.nil ?_
        refine UW.step [_] rfl (List.forall_mem_cons.2 ⟨?_, by simp⟩)
        -- mq: op 4: ('Op.load', '9', ('Operand.tmp', '17')) -> slot 18 ("ref.go:148")
        refine RW.load1 sc9 rfl rfl (fun w' hw' => hw'.base_cell (hcell 0 _ rfl) (fun hk2 => by have := hlt9 _ hk2; have : w0.heap.size ≤ ad.block := had; simp only [block_add] at *; omega)) ?_
        refine RW.st (fun _ => True) (fun _ h => .inr ⟨.inr (by first | trivial | exact h | exact h.ch | exact (h.rem Rem.head).ch | exact ((h.rem Rem.head).rem Rem.head).ch | exact (((h.rem Rem.head).rem Rem.head).rem Rem.head).ch), trivial⟩) (fun _ h => trivial) ?_
        refine QuP.cons rfl (fun wq hq => (RW.assign rfl rfl RW.jn)) ?_
        refine QuP.nil ?_
        refine UW.nil ?_
        -- mq: joinend
        exact fun wz hwz => ⟨wz, (hwz.unbase hx1 hcv).ext, (by repeat (first | exact Sub.nil | refine Sub.cons (by rfl) ?_)), hwz.rebase⟩
      · skip
        refine CW.skip ?_
        -- mq: joinend
        rw [show phW b.ph = [63] from if_neg (by omega)]
        exact fun wz hwz => ⟨wz, hwz.ext, (by repeat (first | exact Sub.nil | refine Sub.cons (by rfl) ?_)), hwz.rebase⟩
    · skip
      have h1p := of_decide_eq_false h1
      refine RW.guardF rfl rfl rfl h1 ?_
      refine RW.guardF rfl rfl rfl h1 ?_
      refine RW.guardF rfl rfl rfl h1 ?_
      refine RW.pickC rfl rfl h1 rfl ?_
      refine RW.nil (EX.seq ?_)
      -- mq: cond
      refine CW.condF rfl (rfl) ?_
      refine CW.skip ?_
      -- mq: joinend
      rw [show phW b.ph = [63] from if_neg (by omega)]
      exact fun wz hwz => ⟨wz, hwz.ext, (by repeat (first | exact Sub.nil | refine Sub.cons (by rfl) ?_)), hwz.rebase⟩
  · skip
    intro w1 hx1
    refine EX.seq (CW.seq (CW.region ?_))
    refine RW.fieldB fl26x0 rfl rfl ?_
    refine RW.loadB1 sc22 rfl rfl (by first | exact Has.head | exact Has.tail Has.head | exact Has.tail (Has.tail Has.head) | exact Has.tail (Has.tail (Has.tail Has.head)) | exact Has.tail (Has.tail (Has.tail (Has.tail Has.head))) | exact Has.tail (Has.tail (Has.tail (Has.tail (Has.tail Has.head)))) | exact Has.tail (Has.tail (Has.tail (Has.tail (Has.tail (Has.tail Has.head)))))) rfl ?_
    refine RW.call rfl ca25 rfl (fun w' _ => refId_c b.id w' b.id (Nat.le_refl _) hb.id) ?_
    refine RW.catS rfl rfl rfl (by first | omega | (simp only [List.length_append, List.length_cons, List.length_nil]; omega)) ?_
    refine RW.catS rfl rfl rfl (by first | omega | (simp only [List.length_append, List.length_cons, List.length_nil]; omega)) ?_
    refine RW.move rfl rfl ?_
    refine RW.catS rfl rfl rfl (by first | omega | (simp only [List.length_append, List.length_cons, List.length_nil]; omega)) ?_
    refine RW.assign rfl rfl ?_
    refine RW.nil (EX.seq (CW.seq ?_))
    -- mq: seq
    refine CW.join ([(1, .pointer (some ⟨g1, 0, none⟩)), (4, .string (bs (brief2 b)))]) (SH w1 (feet [blk g1 b.cells 26]) [blk g1 b.cells 26]) ?_ ?_
    · skip
      refine CW.seq (CW.region ?_)
      refine RW.fieldB fl26x8 rfl rfl ?_
      refine RW.loadB1 sc4 rfl rfl (by first | exact Has.head | exact Has.tail Has.head | exact Has.tail (Has.tail Has.head) | exact Has.tail (Has.tail (Has.tail Has.head)) | exact Has.tail (Has.tail (Has.tail (Has.tail Has.head))) | exact Has.tail (Has.tail (Has.tail (Has.tail (Has.tail Has.head)))) | exact Has.tail (Has.tail (Has.tail (Has.tail (Has.tail (Has.tail Has.head)))))) rfl ?_
      refine RW.nil (EX.seq ?_)
      -- mq: cond
      first | refine CW.condD rfl (fun h2 => ?_) (fun h2 => ?_) | refine CW.cond rfl (fun h2 => ?_) (fun h2 => ?_)
      · skip
        refine CW.region ?_
        refine RW.move rfl rfl ?_
        refine RW.catS rfl rfl rfl (by first | omega | (simp only [List.length_append, List.length_cons, List.length_nil]; omega)) ?_
        refine RW.fieldB fl26x7 rfl rfl ?_
        refine RW.loadB1 sc3 rfl rfl (by first | exact Has.head | exact Has.tail Has.head | exact Has.tail (Has.tail Has.head) | exact Has.tail (Has.tail (Has.tail Has.head)) | exact Has.tail (Has.tail (Has.tail (Has.tail Has.head))) | exact Has.tail (Has.tail (Has.tail (Has.tail (Has.tail Has.head)))) | exact Has.tail (Has.tail (Has.tail (Has.tail (Has.tail (Has.tail Has.head)))))) rfl ?_
        refine RW.call rfl ca26 rfl (fun w' _ => refNumber_c w' b.code hb.code) ?_
        refine RW.catS rfl rfl rfl (by first | omega | (simp only [List.length_append, List.length_cons, List.length_nil]; omega)) ?_
        refine RW.assign rfl rfl ?_
        refine RW.nil ?_
        -- mq: joinend
        rw [brief2, if_pos h2, show brief1 b ++ 32 :: Lib.itoa b.code = brief1 b ++ [32] ++ Lib.itoa b.code by simp]
        exact EX.jn (by repeat (first | exact Sub.nil | refine Sub.cons (by rfl) ?_)) (fun _ h => h)
      · skip
        refine CW.skip ?_
        -- mq: joinend
        rw [brief2, if_neg (by simp [h2]), List.append_nil]
        exact EX.jn (by repeat (first | exact Sub.nil | refine Sub.cons (by rfl) ?_)) (fun _ h => h)
    · skip
      refine EX.seq (CW.seq (CW.seq (CW.region ?_)))
      refine RW.fieldB fl26x11 rfl rfl ?_
      refine RW.loadB1 sc9 rfl rfl (by first | exact Has.head | exact Has.tail Has.head | exact Has.tail (Has.tail Has.head) | exact Has.tail (Has.tail (Has.tail Has.head)) | exact Has.tail (Has.tail (Has.tail (Has.tail Has.head))) | exact Has.tail (Has.tail (Has.tail (Has.tail (Has.tail Has.head)))) | exact Has.tail (Has.tail (Has.tail (Has.tail (Has.tail (Has.tail Has.head)))))) rfl ?_
      refine RW.eqlS rfl rfl rfl ?_
      refine RW.nil (EX.seq ?_)
      -- mq: cond
      first | refine CW.condD rfl (fun h3 => ?_) (fun h3 => ?_) | refine CW.cond rfl (fun h3 => ?_) (fun h3 => ?_)
      · skip
        refine CW.seq (CW.region ?_)
        refine RW.move rfl rfl ?_
        refine RW.assign rfl rfl ?_
        refine RW.nil (EX.seq (CW.ret (EX.seqR ?_)))
        refine EX.fin1 Tryd.results13 rfl (fun wz hw => ?_)
        -- mq: done
        exact ⟨by rw [briefF, if_pos h3, List.append_nil], (hw.unbase hx1 hcv).ext⟩
      · skip
        refine CW.skip (EX.seq (CW.seq (CW.region ?_)))
        refine RW.move rfl rfl ?_
        refine RW.catS rfl rfl rfl (by first | omega | (simp only [List.length_append, List.length_cons, List.length_nil]; omega)) ?_
        refine RW.assign rfl rfl ?_
        refine RW.nil (EX.seq (CW.seq (CW.seq (CW.region ?_))))
        refine RW.assign rfl rfl ?_
        refine RW.nil (EX.seq (CW.block ?_))
        -- mq: loop
        refine CW.loop (ι := Nat) (fun i => [(1, .pointer (some ⟨g1, 0, none⟩)), (4, .string (bs (brief2 b ++ [32] ++ (b.line.take i).map dotC))), (5, .int .i64 (i : Int))]) (fun _ => SH w1 (feet [blk g1 b.cells 26]) [blk g1 b.cells 26]) (fun i => i ≤ b.line.length) (fun i => b.line.length - i) ?_ ?_
        · refine fun w' hw' => ⟨0, Nat.zero_le _, ?_, hw'⟩
          rw [List.take_zero, List.map_nil, List.append_nil]
          exact (by repeat (first | exact Sub.nil | refine Sub.cons (by rfl) ?_))
        · rintro i hi
          have hml : ((b.line.take i).map dotC).length = i := by rw [List.length_map, List.length_take]; omega
          refine CW.seq (CW.seq (CW.region ?_))
          refine RW.move rfl rfl ?_
          refine RW.fieldB fl26x11 rfl rfl ?_
          refine RW.loadB1 sc9 rfl rfl (by first | exact Has.head | exact Has.tail Has.head | exact Has.tail (Has.tail Has.head) | exact Has.tail (Has.tail (Has.tail Has.head)) | exact Has.tail (Has.tail (Has.tail (Has.tail Has.head))) | exact Has.tail (Has.tail (Has.tail (Has.tail (Has.tail Has.head)))) | exact Has.tail (Has.tail (Has.tail (Has.tail (Has.tail (Has.tail Has.head)))))) rfl ?_
          refine RW.lenS Tryd.underlying9 rfl rfl ?_
          refine RW.lss rfl rfl rfl ?_
          refine RW.nil (EX.seq ?_)
          -- mq: cond
          first | refine CW.condD rfl (fun hlt => ?_) (fun hlt => ?_) | refine CW.cond rfl (fun hlt => ?_) (fun hlt => ?_)
          · skip
            obtain ⟨c, hc1⟩ : ∃ c, b.line[i]? = some c := ⟨b.line[i]'(by omega), List.getElem?_eq_getElem _⟩
            have hc8 := UInt8.toNat_lt c
            have hdt := dot_take hc1
            refine CW.skip (EX.seq (CW.seq (CW.block (CW.seq (CW.region ?_)))))
            refine RW.fieldB fl26x11 rfl rfl ?_
            refine RW.loadB1 sc9 rfl rfl (by first | exact Has.head | exact Has.tail Has.head | exact Has.tail (Has.tail Has.head) | exact Has.tail (Has.tail (Has.tail Has.head)) | exact Has.tail (Has.tail (Has.tail (Has.tail Has.head))) | exact Has.tail (Has.tail (Has.tail (Has.tail (Has.tail Has.head)))) | exact Has.tail (Has.tail (Has.tail (Has.tail (Has.tail (Has.tail Has.head)))))) rfl ?_
            refine RW.move rfl rfl ?_
            refine RW.ixStr (q := i) Tryd.underlying9 rfl rfl rfl (by omega) hc1 ?_
            refine RW.lss rfl rfl rfl ?_
            refine RW.move rfl rfl ?_
            -- mq: guard slot 52
            refine RW.casesB 52 rfl (fun h4 => ?_) (fun h4 => ?_)
            · skip
              have h4p := of_decide_eq_true h4
              refine RW.guardF rfl rfl rfl h4 ?_
              refine RW.guardF rfl rfl rfl h4 ?_
              refine RW.guardF rfl rfl rfl h4 ?_
              refine RW.guardF rfl rfl rfl h4 ?_
              refine RW.guardF rfl rfl rfl h4 ?_
              refine RW.pickB rfl rfl h4 rfl ?_
              refine RW.nil (EX.seq ?_)
              -- mq: cond
              refine CW.condT rfl (rfl) ?_
              refine CW.region ?_
              refine RW.move rfl rfl ?_
              refine RW.catS rfl rfl rfl (by first | omega | (simp only [List.length_append, List.length_cons, List.length_nil]; omega)) ?_
              refine RW.assign rfl rfl ?_
              refine RW.nil (EX.bkN (EX.seq (CW.region ?_)))
              refine RW.move rfl rfl ?_
              refine RW.add rfl rfl rfl (wrap64 (by omega) (by omega)) ?_
              refine RW.assign rfl rfl ?_
              refine RW.nil ?_
              -- mq: loopend
              rw [dotC, if_pos (.inl (by omega))] at hdt
              exact EX.lpN (i + 1) (by omega) (by omega) (by rw [hdt, ← List.append_assoc]; exact (by repeat (first | exact Sub.nil | refine Sub.cons (by rfl) ?_))) (fun w' hw' => hw')
            · skip
              have h4p := of_decide_eq_false h4
              refine RW.guardT rfl rfl h4 ?_
              refine RW.fieldB fl26x11 rfl rfl ?_
              refine RW.guardT rfl rfl h4 ?_
              refine RW.loadB1 sc9 rfl rfl (by first | exact Has.head | exact Has.tail Has.head | exact Has.tail (Has.tail Has.head) | exact Has.tail (Has.tail (Has.tail Has.head)) | exact Has.tail (Has.tail (Has.tail (Has.tail Has.head))) | exact Has.tail (Has.tail (Has.tail (Has.tail (Has.tail Has.head)))) | exact Has.tail (Has.tail (Has.tail (Has.tail (Has.tail (Has.tail Has.head)))))) rfl ?_
              refine RW.guardT rfl rfl h4 ?_
              refine RW.move rfl rfl ?_
              refine RW.guardT rfl rfl h4 ?_
              refine RW.ixStr (q := i) Tryd.underlying9 rfl rfl rfl (by omega) hc1 ?_
              refine RW.guardT rfl rfl h4 ?_
              refine RW.eqlI rfl rfl rfl ?_
              refine RW.pickC rfl rfl h4 rfl ?_
              refine RW.nil (EX.seq ?_)
              -- mq: cond
              first | refine CW.condD rfl (fun h5 => ?_) (fun h5 => ?_) | refine CW.cond rfl (fun h5 => ?_) (fun h5 => ?_)
              · skip
                refine CW.region ?_
                refine RW.move rfl rfl ?_
                refine RW.catS rfl rfl rfl (by first | omega | (simp only [List.length_append, List.length_cons, List.length_nil]; omega)) ?_
                refine RW.assign rfl rfl ?_
                refine RW.nil (EX.bkN (EX.seq (CW.region ?_)))
                refine RW.move rfl rfl ?_
                refine RW.add rfl rfl rfl (wrap64 (by omega) (by omega)) ?_
                refine RW.assign rfl rfl ?_
                refine RW.nil ?_
                -- mq: loopend
                rw [dotC, if_pos (.inr (by omega))] at hdt
                exact EX.lpN (i + 1) (by omega) (by omega) (by rw [hdt, ← List.append_assoc]; exact (by repeat (first | exact Sub.nil | refine Sub.cons (by rfl) ?_))) (fun w' hw' => hw')
              · skip
                have hcut : (b.line.take (i + 1)).drop i = [c] := by
                  rw [List.take_add_one, hc1, List.drop_append_of_le_length (by rw [List.length_take]; omega), List.drop_of_length_le (by rw [List.length_take]; omega)]; rfl
                have hcl : ((b.line.take (i + 1)).drop i).length = 1 := by rw [hcut]; rfl
                refine CW.region ?_
                refine RW.move rfl rfl ?_
                refine RW.fieldB fl26x11 rfl rfl ?_
                refine RW.loadB1 sc9 rfl rfl (by first | exact Has.head | exact Has.tail Has.head | exact Has.tail (Has.tail Has.head) | exact Has.tail (Has.tail (Has.tail Has.head)) | exact Has.tail (Has.tail (Has.tail (Has.tail Has.head))) | exact Has.tail (Has.tail (Has.tail (Has.tail (Has.tail Has.head)))) | exact Has.tail (Has.tail (Has.tail (Has.tail (Has.tail (Has.tail Has.head)))))) rfl ?_
                refine RW.move rfl rfl ?_
                refine RW.move rfl rfl ?_
                refine RW.add rfl rfl rfl (wrap64 (by omega) (by omega)) ?_
                refine RW.sliceStrLH i (i + 1) Tryd.underlying9 rfl rfl rfl rfl (by first | rfl | omega) (by first | rfl | omega) (by omega) (by first | omega | (simp; done) | (simp; omega)) ?_
                refine RW.catS rfl rfl rfl (by first | omega | (simp only [List.length_append, List.length_cons, List.length_nil]; omega)) ?_
                refine RW.assign rfl rfl ?_
                refine RW.nil (EX.bkN (EX.seq (CW.region ?_)))
                refine RW.move rfl rfl ?_
                refine RW.add rfl rfl rfl (wrap64 (by omega) (by omega)) ?_
                refine RW.assign rfl rfl ?_
                refine RW.nil ?_
                -- mq: loopend
                rw [dotC, if_neg (by omega), ← hcut] at hdt
                exact EX.lpN (i + 1) (by omega) (by omega) (by rw [hdt, ← List.append_assoc]; exact (by repeat (first | exact Sub.nil | refine Sub.cons (by rfl) ?_))) (fun w' hw' => hw')
          · skip
            obtain rfl : i = b.line.length := by omega
            refine CW.exit (EX.seqE (EX.lpE (EX.bkE (EX.seq (CW.seq (CW.region ?_))))))
            refine RW.move rfl rfl ?_
            refine RW.assign rfl rfl ?_
            refine RW.nil (EX.seq (CW.ret ?_))
            refine EX.fin1 Tryd.results13 rfl (fun wz hw => ?_)
            -- mq: done
            refine ⟨?_, (hw.unbase hx1 hcv).ext⟩
            rw [briefF, if_neg h3, List.take_length, List.append_assoc]
            rfl
end Go.Proofs.YtnkdabjahmjdoaaDoor.Mq

namespace Go.Proofs.YtnkdabjahmjdoaaDoor.Mq
open Go Go.RowKit Go.Proofs

def w5 (b : BlkV) : List (List UInt8) := [[98, 108, 111, 99, 107], Lib.decDigits b.id, phaseW b.ph, cutW b.cut, codeW b.has b.code]
theorem wordsF_w5 (b : BlkV) : wordsF b = w5 b ++ posW b.pos ++ [hexT b.dir, hexT b.line] := by
  simp [wordsF, w5]
theorem posW_take {b : BlkV} {k : Nat} {p : Int × Int} (h : b.pos[k]? = some p) : posW (b.pos.take (k + 1)) = posW (b.pos.take k) ++ [Lib.itoa p.1, Lib.itoa p.2] := by
  rw [List.take_add_one, h]; simp [posW]
theorem estr_step {b : BlkV} {k : Nat} {p : Int × Int} (h : b.pos[k]? = some p) : EStr.all (w5 b ++ posW (b.pos.take (k + 1))) = EStr.all (w5 b ++ posW (b.pos.take k)) ++ [.string (bs (Lib.itoa p.1)), .string (bs (Lib.itoa p.2))] := by
  rw [posW_take h, ← List.append_assoc, Enc.all_append]; rfl
theorem wordsF_le {b : BlkV} (hb : b.Wf) (ht : toldB b = true) : ∀ x ∈ wordsF b, x.length ≤ 600 := by
  obtain ⟨h1, h2, h3, h4, h5⟩ := toldB_iff.1 ht
  intro x hx
  rw [wordsF_w5] at hx
  rcases List.mem_append.1 hx with hx | hx
  · rcases List.mem_append.1 hx with hx | hx
    · simp only [w5, List.mem_cons, List.not_mem_nil, or_false] at hx
      rcases hx with rfl | rfl | rfl | rfl | rfl
      · decide
      · have := dec_len20 hb.id; omega
      · have := phW_len b.ph; rw [phW, if_pos h1] at this; omega
      · unfold cutW; split <;> decide
      · unfold codeW; split
        · have := itoa_len hb.code; omega
        · decide
    · obtain ⟨p, hp, hx⟩ := List.mem_flatMap.1 hx
      have := hb.pos p hp
      simp only [List.mem_cons, List.not_mem_nil, or_false] at hx
      rcases hx with rfl | rfl
      · have := itoa_len this.1; omega
      · have := itoa_len this.2; omega
  · simp only [List.mem_cons, List.not_mem_nil, or_false] at hx
    rcases hx with rfl | rfl
    · have := hexP_len b.dir; unfold hexT; rw [List.length_cons]; omega
    · have := hexP_len b.line; unfold hexT; rw [List.length_cons]; omega
theorem wordsF_len (b : BlkV) : (wordsF b).length = 17 := rfl
theorem lineF_len {b : BlkV} (hb : b.Wf) (ht : toldB b = true) : (lineF b).length ≤ 11000 := by
  have := join_le [32] 600 (wordsF b) (wordsF_le hb ht)
  rw [wordsF_len] at this
  unfold lineF
  simp at this
  omega
def lineR (b : BlkV) : Value := if toldB b = true then .tuple #[.string (bs (lineF b)), .int .i64 0] else .tuple #[.string (bs []), .int .i64 1]
theorem line_c (w : World) (hg : Gl w) (b : BlkV) (hb : b.Wf) :
    Calls Tryd.prog 15 [.agg b.cells.toArray].toArray w (fun e w' => e = .returned (lineR b) ∧ Ext [] w w') := by
  refine calls (n := 62) Tryd.func15 rfl Tryd.ntmps15 rfl ?_
  refine CW.sub (H' := SH w [] []) ?_ (Sub.refl _) (fun x hx => SH.start' _ _ hx)
  refine CW.seq (CW.region ?_)
  refine RW.boxA rfl rfl (fun g1 hg1 hf1 => ?_)
  refine RW.assign rfl rfl ?_
  refine RW.assign rfl rfl ?_
  refine RW.nil (EX.seq (CW.seq (CW.seq ?_)))
  -- mq: region
  refine CW.region ?_
  refine RW.loadBA ag26 rfl rfl (by first | exact Has.head | exact Has.tail Has.head | exact Has.tail (Has.tail Has.head) | exact Has.tail (Has.tail (Has.tail Has.head)) | exact Has.tail (Has.tail (Has.tail (Has.tail Has.head))) | exact Has.tail (Has.tail (Has.tail (Has.tail (Has.tail Has.head)))) | exact Has.tail (Has.tail (Has.tail (Has.tail (Has.tail (Has.tail Has.head)))))) rfl rfl ?_
  refine RW.call rfl ca27 rfl (fun w' _ => told_c w' b) ?_
  refine RW.not_ rfl rfl ?_
  refine RW.nil (EX.seq ?_)
  -- mq: cond
  first | refine CW.condD rfl (fun h0 => ?_) (fun h0 => ?_) | refine CW.cond rfl (fun h0 => ?_) (fun h0 => ?_)
  · skip
    refine CW.seq (CW.region ?_)
    refine RW.assign rfl rfl ?_
    refine RW.assign rfl rfl ?_
    refine RW.nil (EX.seq (CW.ret (EX.seqR ?_)))
    refine EX.fin2 Tryd.results15 rfl rfl (fun wz hw => ?_)
    -- mq: done
    exact ⟨by rw [lineR, if_neg (by rw [nb_f h0]; decide)], hw.ext⟩
  · skip
    have ht := nb_t h0
    obtain ⟨ht1, ht2, ht3, ht4, ht5⟩ := toldB_iff.1 ht
    have hpos := hb.pos
    refine CW.skip (EX.seq (CW.seq ?_))
    -- mq: region
    refine CW.region ?_
    refine RW.fieldB fl26x1 rfl rfl ?_
    refine RW.loadB1 sc3 rfl rfl (by first | exact Has.head | exact Has.tail Has.head | exact Has.tail (Has.tail Has.head) | exact Has.tail (Has.tail (Has.tail Has.head)) | exact Has.tail (Has.tail (Has.tail (Has.tail Has.head))) | exact Has.tail (Has.tail (Has.tail (Has.tail (Has.tail Has.head)))) | exact Has.tail (Has.tail (Has.tail (Has.tail (Has.tail (Has.tail Has.head)))))) rfl ?_
    refine RW.call rfl ca11 rfl (fun w' _ => phase_c w' b.ph) ?_
    refine RW.move rfl rfl ?_
    refine RW.extract rfl rfl rfl ?_
    refine RW.extract rfl rfl rfl ?_
    refine RW.assign rfl rfl ?_
    refine RW.assign rfl rfl ?_
    refine RW.nil (EX.seq (CW.seq ?_))
    -- mq: region
    refine CW.region ?_
    refine RW.fieldB fl26x0 rfl rfl ?_
    refine RW.loadB1 sc22 rfl rfl (by first | exact Has.head | exact Has.tail Has.head | exact Has.tail (Has.tail Has.head) | exact Has.tail (Has.tail (Has.tail Has.head)) | exact Has.tail (Has.tail (Has.tail (Has.tail Has.head))) | exact Has.tail (Has.tail (Has.tail (Has.tail (Has.tail Has.head)))) | exact Has.tail (Has.tail (Has.tail (Has.tail (Has.tail (Has.tail Has.head)))))) rfl ?_
    refine RW.call rfl caFU rfl (fun w' hw' => formatUint_c w' (hg.ext hw'.ext) b.id hb.id) ?_
    refine RW.move rfl rfl ?_
    refine RW.buildSlc sl33 rfl rfl rfl rfl (fun g22 hg22 hf22 => ?_)
    refine RW.assign rfl rfl ?_
    refine RW.nil (EX.seq (CW.seq ?_))
    -- mq: seq
    refine CW.join ([(1, .pointer (some ⟨g1, 0, none⟩)), (6, .slice (some ⟨g22, 0, none⟩) 5 5)]) (SH w [] [blk g22 [.string (bs [98, 108, 111, 99, 107]), .string (bs (Lib.decDigits b.id)), .string (bs (phaseW b.ph)), .string (bs (cutW b.cut)), .string (bs [45])] 9, blk g1 b.cells 26]) ?_ ?_
    · skip
      refine CW.seq (CW.region ?_)
      refine RW.fieldB fl26x9 rfl rfl ?_
      refine RW.loadB1 sc4 rfl rfl (by first | exact Has.head | exact Has.tail Has.head | exact Has.tail (Has.tail Has.head) | exact Has.tail (Has.tail (Has.tail Has.head)) | exact Has.tail (Has.tail (Has.tail (Has.tail Has.head))) | exact Has.tail (Has.tail (Has.tail (Has.tail (Has.tail Has.head)))) | exact Has.tail (Has.tail (Has.tail (Has.tail (Has.tail (Has.tail Has.head)))))) rfl ?_
      refine RW.nil (EX.seq ?_)
      -- mq: cond
      first | refine CW.condD rfl (fun h1 => ?_) (fun h1 => ?_) | refine CW.cond rfl (fun h1 => ?_) (fun h1 => ?_)
      · skip
        refine CW.region ?_
        refine RW.move rfl rfl ?_
        refine RW.ixAddr (q := 3) sl33 rfl rfl rfl (by first | rfl | assumption) (by omega) (by omega) ?_
        -- mq: at
        refine RW.store1 sc9 rfl rfl (by first | exact Upd.head | exact Upd.tail Upd.head | exact Upd.tail (Upd.tail Upd.head) | exact Upd.tail (Upd.tail (Upd.tail Upd.head)) | exact Upd.tail (Upd.tail (Upd.tail (Upd.tail Upd.head))) | exact Upd.tail (Upd.tail (Upd.tail (Upd.tail (Upd.tail Upd.head)))) | exact Upd.tail (Upd.tail (Upd.tail (Upd.tail (Upd.tail (Upd.tail Upd.head)))))) rfl (by first | exact Nat.le_of_ble_eq_true rfl | simp) ?_
        refine RW.nil ?_
        -- mq: joinend
        rw [cutW, if_pos h1]
        exact EX.jn (by repeat (first | exact Sub.nil | refine Sub.cons (by rfl) ?_)) (fun _ h => h)
      · skip
        refine CW.skip ?_
        -- mq: joinend
        rw [cutW, if_neg (by simp [h1])]
        exact EX.jn (by repeat (first | exact Sub.nil | refine Sub.cons (by rfl) ?_)) (fun _ h => h)
    · skip
      refine EX.seq (CW.seq ?_)
      -- mq: seq
      refine CW.join ([(1, .pointer (some ⟨g1, 0, none⟩)), (6, .slice (some ⟨g22, 0, none⟩) 5 5)]) (SH w [] [blk g22 [.string (bs [98, 108, 111, 99, 107]), .string (bs (Lib.decDigits b.id)), .string (bs (phaseW b.ph)), .string (bs (cutW b.cut)), .string (bs (codeW b.has b.code))] 9, blk g1 b.cells 26]) ?_ ?_
      · skip
        refine CW.seq (CW.region ?_)
        refine RW.fieldB fl26x8 rfl rfl ?_
        refine RW.loadB1 sc4 rfl rfl (by first | exact Has.head | exact Has.tail Has.head | exact Has.tail (Has.tail Has.head) | exact Has.tail (Has.tail (Has.tail Has.head)) | exact Has.tail (Has.tail (Has.tail (Has.tail Has.head))) | exact Has.tail (Has.tail (Has.tail (Has.tail (Has.tail Has.head)))) | exact Has.tail (Has.tail (Has.tail (Has.tail (Has.tail (Has.tail Has.head)))))) rfl ?_
        refine RW.nil (EX.seq ?_)
        -- mq: cond
        first | refine CW.condD rfl (fun h1 => ?_) (fun h1 => ?_) | refine CW.cond rfl (fun h1 => ?_) (fun h1 => ?_)
        · skip
          refine CW.region ?_
          refine RW.move rfl rfl ?_
          refine RW.fieldB fl26x7 rfl rfl ?_
          refine RW.loadB1 sc3 rfl rfl (by first | exact Has.head | exact Has.tail Has.head | exact Has.tail (Has.tail Has.head) | exact Has.tail (Has.tail (Has.tail Has.head)) | exact Has.tail (Has.tail (Has.tail (Has.tail Has.head))) | exact Has.tail (Has.tail (Has.tail (Has.tail (Has.tail Has.head)))) | exact Has.tail (Has.tail (Has.tail (Has.tail (Has.tail (Has.tail Has.head)))))) rfl ?_
          refine RW.call rfl caItoa rfl (fun w' hw' => itoa_c w' (hg.ext hw'.ext) b.code hb.code) ?_
          refine RW.ixAddr (q := 4) sl33 rfl rfl rfl (by first | rfl | assumption) (by omega) (by omega) ?_
          -- mq: at
          refine RW.store1 sc9 rfl rfl (by first | exact Upd.head | exact Upd.tail Upd.head | exact Upd.tail (Upd.tail Upd.head) | exact Upd.tail (Upd.tail (Upd.tail Upd.head)) | exact Upd.tail (Upd.tail (Upd.tail (Upd.tail Upd.head))) | exact Upd.tail (Upd.tail (Upd.tail (Upd.tail (Upd.tail Upd.head)))) | exact Upd.tail (Upd.tail (Upd.tail (Upd.tail (Upd.tail (Upd.tail Upd.head)))))) rfl (by first | exact Nat.le_of_ble_eq_true rfl | simp) ?_
          refine RW.nil ?_
          -- mq: joinend
          rw [codeW, if_pos h1]
          exact EX.jn (by repeat (first | exact Sub.nil | refine Sub.cons (by rfl) ?_)) (fun _ h => h)
        · skip
          refine CW.skip ?_
          -- mq: joinend
          rw [codeW, if_neg (by simp [h1])]
          exact EX.jn (by repeat (first | exact Sub.nil | refine Sub.cons (by rfl) ?_)) (fun _ h => h)
      · skip
        refine EX.seq (CW.seq (CW.seq (CW.region ?_)))
        refine RW.call rfl ca28 rfl (fun w' _ => places_c w' g1) ?_
        refine RW.move rfl rfl ?_
        refine RW.nil (EX.seq (CW.block ?_))
        -- mq: loop
        refine CW.ownBlk (m := 5) (sz := 1) (by first | exact Upd.head | exact Upd.tail Upd.head | exact Upd.tail (Upd.tail Upd.head) | exact Upd.tail (Upd.tail (Upd.tail Upd.head)) | exact Upd.tail (Upd.tail (Upd.tail (Upd.tail Upd.head))) | exact Upd.tail (Upd.tail (Upd.tail (Upd.tail (Upd.tail Upd.head)))) | exact Upd.tail (Upd.tail (Upd.tail (Upd.tail (Upd.tail (Upd.tail Upd.head)))))) rfl (by decide) ?_
        refine CW.loop (ι := Nat × Value) (fun k => [(1, .pointer (some ⟨g1, 0, none⟩)), (6, k.2), (34, .agg (ptrs g1).toArray), (35, .int .i64 (k.1 : Int))]) (fun k => SH w [] [own 9 1 k.2 (5 + 2 * k.1) (EStr.all (w5 b ++ posW (b.pos.take k.1))), blk g1 b.cells 26]) (fun k => k.1 ≤ 5) (fun k => 5 - k.1) ?_ ?_
        · exact fun w' hw' => ⟨(0, _), Nat.zero_le _, (by repeat (first | exact Sub.nil | refine Sub.cons (by rfl) ?_)), hw'⟩
        · rintro ⟨k, u⟩ hk
          dsimp only at hk ⊢
          refine CW.seq (CW.region ?_)
          refine RW.lss rfl rfl rfl ?_
          refine RW.nil (EX.seq (CW.seq ?_))
          -- mq: cond
          first | refine CW.condD rfl (fun hlt => ?_) (fun hlt => ?_) | refine CW.cond rfl (fun hlt => ?_) (fun hlt => ?_)
          · skip
            rcases (show k = 0 ∨ k = 1 ∨ k = 2 ∨ k = 3 ∨ k = 4 by omega) with rfl | rfl | rfl | rfl | rfl
            · skip
              refine CW.skip (EX.seq (CW.seq (CW.block (CW.seq (CW.region ?_)))))
              refine RW.ixValS (q := 0) Tryd.underlying56 sc55 rfl rfl rfl (by omega) (by omega) rfl ?_
              -- mq: at
              refine RW.assign rfl rfl ?_
              refine RW.nil (EX.seq ?_)
              -- mq: region
              have hp := hpos (b.r1, b.c1) (by simp [BlkV.pos])
              refine CW.drawU [0, 1, 2, 3, 4, 6, 7, 8, 9] 4 [[(5, false, []), (10, false, []), (11, false, []), (12, false, [13])]] (Ch [blk g1 b.cells 26]) mixed (by kernel_rfl) (fun _ hw => hw.drew) (fun _ h => (by first | trivial | exact h | exact h.ch | exact (h.rem Rem.head).ch | exact ((h.rem Rem.head).rem Rem.head).ch | exact (((h.rem Rem.head).rem Rem.head).rem Rem.head).ch)) ?_
              refine QuP.cons rfl (fun wq hq => (RW.move rfl rfl RW.jn)) ?_
              refine QuP.cons rfl (fun wq hq => (RW.move rfl rfl RW.jn)) ?_
              refine QuP.cons rfl (fun wq hq => (RW.nilChk rfl rfl RW.jn)) ?_
              refine QuP.cons rfl (fun wq hq => (RW.fieldB fl24x0 rfl rfl RW.jn)) ?_
              refine QuP.cons rfl (fun wq hq => (RW.load1 sc3 rfl rfl (fun w1 e1 => by subst e1; exact hq.blk_cell (by first | exact Has.head | exact Has.tail Has.head | exact Has.tail (Has.tail Has.head) | exact Has.tail (Has.tail (Has.tail Has.head)) | exact Has.tail (Has.tail (Has.tail (Has.tail Has.head))) | exact Has.tail (Has.tail (Has.tail (Has.tail (Has.tail Has.head)))) | exact Has.tail (Has.tail (Has.tail (Has.tail (Has.tail (Has.tail Has.head)))))) rfl) RW.jn)) ?_
              refine QuP.cons rfl (fun wq hq => (RW.move rfl rfl RW.jn)) ?_
              refine QuP.cons rfl (fun wq hq => (RW.nilChk rfl rfl RW.jn)) ?_
              refine QuP.cons rfl (fun wq hq => (RW.fieldB fl24x1 rfl rfl RW.jn)) ?_
              refine QuP.cons rfl (fun wq hq => (RW.load1 sc3 rfl rfl (fun w1 e1 => by subst e1; exact hq.blk_cell (by first | exact Has.head | exact Has.tail Has.head | exact Has.tail (Has.tail Has.head) | exact Has.tail (Has.tail (Has.tail Has.head)) | exact Has.tail (Has.tail (Has.tail (Has.tail Has.head))) | exact Has.tail (Has.tail (Has.tail (Has.tail (Has.tail Has.head)))) | exact Has.tail (Has.tail (Has.tail (Has.tail (Has.tail (Has.tail Has.head)))))) rfl) RW.jn)) ?_
              refine QuP.nil ?_
              refine UW.step [_] rfl (List.forall_mem_cons.2 ⟨?_, by simp⟩)
              refine RW.call rfl caItoa rfl (fun w' hw' => itoa_c w' (hg.ext hw'.ext) b.r1 hp.1) ?_
              refine RW.st (fun _ => True) (fun _ h => .inr (by first | trivial | exact h | exact h.ch | exact (h.rem Rem.head).ch | exact ((h.rem Rem.head).rem Rem.head).ch | exact (((h.rem Rem.head).rem Rem.head).rem Rem.head).ch)) (fun _ h => trivial) ?_
              refine QuP.nil ?_
              refine UW.step [_] rfl (List.forall_mem_cons.2 ⟨?_, by simp⟩)
              refine RW.call rfl caItoa rfl (fun w' hw' => itoa_c w' (hg.ext hw'.ext) b.c1 hp.2) ?_
              refine RW.st (fun _ => True) (fun _ h => .inr ⟨.inr (by first | trivial | exact h | exact h.ch | exact (h.rem Rem.head).ch | exact ((h.rem Rem.head).rem Rem.head).ch | exact (((h.rem Rem.head).rem Rem.head).rem Rem.head).ch), trivial⟩) (fun _ h => trivial) ?_
              refine QuP.nil ?_
              refine UW.step [_] rfl (List.forall_mem_cons.2 ⟨?_, by simp⟩)
              refine RW.buildSlc sl33 rfl rfl rfl rfl (fun g49 hg49 hf49 => ?_)
              refine RW.st (fun _ => True) (fun _ h => .inr ⟨.inr ⟨.inr (by first | trivial | exact h | exact h.ch | exact (h.rem Rem.head).ch | exact ((h.rem Rem.head).rem Rem.head).ch | exact (((h.rem Rem.head).rem Rem.head).rem Rem.head).ch), trivial⟩, trivial⟩) (fun _ h => trivial) ?_
              refine QuP.nil ?_
              refine UW.step [_] rfl (List.forall_mem_cons.2 ⟨?_, by simp⟩)
              refine RW.append1 sl33 rfl rfl rfl (by first | exact Rem.head | exact Rem.tail Rem.head | exact Rem.tail (Rem.tail Rem.head) | exact Rem.tail (Rem.tail (Rem.tail Rem.head)) | exact Rem.tail (Rem.tail (Rem.tail (Rem.tail Rem.head))) | exact Rem.tail (Rem.tail (Rem.tail (Rem.tail (Rem.tail Rem.head)))) | exact Rem.tail (Rem.tail (Rem.tail (Rem.tail (Rem.tail (Rem.tail Rem.head)))))) (fun _ => by first | exact Upd.head | exact Upd.tail Upd.head | exact Upd.tail (Upd.tail Upd.head) | exact Upd.tail (Upd.tail (Upd.tail Upd.head)) | exact Upd.tail (Upd.tail (Upd.tail (Upd.tail Upd.head))) | exact Upd.tail (Upd.tail (Upd.tail (Upd.tail (Upd.tail Upd.head)))) | exact Upd.tail (Upd.tail (Upd.tail (Upd.tail (Upd.tail (Upd.tail Upd.head)))))) rfl (by repeat (first | exact Ones.nil | exact Enc.ones _ _ | refine Ones.cons rfl ?_)) (by simp only [maxLen]; omega) (by omega) (fun v50 hv50 => ?_)
              refine RW.st (fun _ => True) (fun _ h => .inr ⟨.inr ⟨.inr ⟨.inr (by first | trivial | exact h | exact h.ch | exact (h.rem Rem.head).ch | exact ((h.rem Rem.head).rem Rem.head).ch | exact (((h.rem Rem.head).rem Rem.head).rem Rem.head).ch), trivial⟩, trivial⟩, trivial⟩) (fun _ h => trivial) ?_
              refine QuP.cons rfl (fun wq hq => (RW.assign rfl rfl RW.jn)) ?_
              refine QuP.nil ?_
              refine UW.nil (EX.bkN (EX.seq (CW.region ?_)))
              refine RW.add rfl rfl rfl (wrap64 (by omega) (by omega)) ?_
              refine RW.move rfl rfl ?_
              refine RW.nil ?_
              -- mq: loopend
              refine EX.lpN (1, v50) (by dsimp only; omega) (by dsimp only; omega) (by repeat (first | exact Sub.nil | refine Sub.cons (by rfl) ?_)) (fun w' hw' => ?_)
              dsimp only
              rw [estr_step (b := b) (k := 0) (p := (b.r1, b.c1)) rfl]
              exact hw'
            · skip
              refine CW.skip (EX.seq (CW.seq (CW.block (CW.seq (CW.region ?_)))))
              refine RW.ixValS (q := 1) Tryd.underlying56 sc55 rfl rfl rfl (by omega) (by omega) rfl ?_
              -- mq: at
              refine RW.assign rfl rfl ?_
              refine RW.nil (EX.seq ?_)
              -- mq: region
              have hp := hpos (b.r2, b.c2) (by simp [BlkV.pos])
              refine CW.drawU [0, 1, 2, 3, 4, 6, 7, 8, 9] 4 [[(5, false, []), (10, false, []), (11, false, []), (12, false, [13])]] (Ch [blk g1 b.cells 26]) mixed (by kernel_rfl) (fun _ hw => hw.drew) (fun _ h => (by first | trivial | exact h | exact h.ch | exact (h.rem Rem.head).ch | exact ((h.rem Rem.head).rem Rem.head).ch | exact (((h.rem Rem.head).rem Rem.head).rem Rem.head).ch)) ?_
              refine QuP.cons rfl (fun wq hq => (RW.move rfl rfl RW.jn)) ?_
              refine QuP.cons rfl (fun wq hq => (RW.move rfl rfl RW.jn)) ?_
              refine QuP.cons rfl (fun wq hq => (RW.nilChk rfl rfl RW.jn)) ?_
              refine QuP.cons rfl (fun wq hq => (RW.fieldB fl24x0 rfl rfl RW.jn)) ?_
              refine QuP.cons rfl (fun wq hq => (RW.load1 sc3 rfl rfl (fun w1 e1 => by subst e1; exact hq.blk_cell (by first | exact Has.head | exact Has.tail Has.head | exact Has.tail (Has.tail Has.head) | exact Has.tail (Has.tail (Has.tail Has.head)) | exact Has.tail (Has.tail (Has.tail (Has.tail Has.head))) | exact Has.tail (Has.tail (Has.tail (Has.tail (Has.tail Has.head)))) | exact Has.tail (Has.tail (Has.tail (Has.tail (Has.tail (Has.tail Has.head)))))) rfl) RW.jn)) ?_
              refine QuP.cons rfl (fun wq hq => (RW.move rfl rfl RW.jn)) ?_
              refine QuP.cons rfl (fun wq hq => (RW.nilChk rfl rfl RW.jn)) ?_
              refine QuP.cons rfl (fun wq hq => (RW.fieldB fl24x1 rfl rfl RW.jn)) ?_
              refine QuP.cons rfl (fun wq hq => (RW.load1 sc3 rfl rfl (fun w1 e1 => by subst e1; exact hq.blk_cell (by first | exact Has.head | exact Has.tail Has.head | exact Has.tail (Has.tail Has.head) | exact Has.tail (Has.tail (Has.tail Has.head)) | exact Has.tail (Has.tail (Has.tail (Has.tail Has.head))) | exact Has.tail (Has.tail (Has.tail (Has.tail (Has.tail Has.head)))) | exact Has.tail (Has.tail (Has.tail (Has.tail (Has.tail (Has.tail Has.head)))))) rfl) RW.jn)) ?_
              refine QuP.nil ?_
              refine UW.step [_] rfl (List.forall_mem_cons.2 ⟨?_, by simp⟩)
              refine RW.call rfl caItoa rfl (fun w' hw' => itoa_c w' (hg.ext hw'.ext) b.r2 hp.1) ?_
              refine RW.st (fun _ => True) (fun _ h => .inr (by first | trivial | exact h | exact h.ch | exact (h.rem Rem.head).ch | exact ((h.rem Rem.head).rem Rem.head).ch | exact (((h.rem Rem.head).rem Rem.head).rem Rem.head).ch)) (fun _ h => trivial) ?_
              refine QuP.nil ?_
              refine UW.step [_] rfl (List.forall_mem_cons.2 ⟨?_, by simp⟩)
              refine RW.call rfl caItoa rfl (fun w' hw' => itoa_c w' (hg.ext hw'.ext) b.c2 hp.2) ?_
              refine RW.st (fun _ => True) (fun _ h => .inr ⟨.inr (by first | trivial | exact h | exact h.ch | exact (h.rem Rem.head).ch | exact ((h.rem Rem.head).rem Rem.head).ch | exact (((h.rem Rem.head).rem Rem.head).rem Rem.head).ch), trivial⟩) (fun _ h => trivial) ?_
              refine QuP.nil ?_
              refine UW.step [_] rfl (List.forall_mem_cons.2 ⟨?_, by simp⟩)
              refine RW.buildSlc sl33 rfl rfl rfl rfl (fun g49 hg49 hf49 => ?_)
              refine RW.st (fun _ => True) (fun _ h => .inr ⟨.inr ⟨.inr (by first | trivial | exact h | exact h.ch | exact (h.rem Rem.head).ch | exact ((h.rem Rem.head).rem Rem.head).ch | exact (((h.rem Rem.head).rem Rem.head).rem Rem.head).ch), trivial⟩, trivial⟩) (fun _ h => trivial) ?_
              refine QuP.nil ?_
              refine UW.step [_] rfl (List.forall_mem_cons.2 ⟨?_, by simp⟩)
              refine RW.append1 sl33 rfl rfl rfl (by first | exact Rem.head | exact Rem.tail Rem.head | exact Rem.tail (Rem.tail Rem.head) | exact Rem.tail (Rem.tail (Rem.tail Rem.head)) | exact Rem.tail (Rem.tail (Rem.tail (Rem.tail Rem.head))) | exact Rem.tail (Rem.tail (Rem.tail (Rem.tail (Rem.tail Rem.head)))) | exact Rem.tail (Rem.tail (Rem.tail (Rem.tail (Rem.tail (Rem.tail Rem.head)))))) (fun _ => by first | exact Upd.head | exact Upd.tail Upd.head | exact Upd.tail (Upd.tail Upd.head) | exact Upd.tail (Upd.tail (Upd.tail Upd.head)) | exact Upd.tail (Upd.tail (Upd.tail (Upd.tail Upd.head))) | exact Upd.tail (Upd.tail (Upd.tail (Upd.tail (Upd.tail Upd.head)))) | exact Upd.tail (Upd.tail (Upd.tail (Upd.tail (Upd.tail (Upd.tail Upd.head)))))) rfl (by repeat (first | exact Ones.nil | exact Enc.ones _ _ | refine Ones.cons rfl ?_)) (by simp only [maxLen]; omega) (by omega) (fun v50 hv50 => ?_)
              refine RW.st (fun _ => True) (fun _ h => .inr ⟨.inr ⟨.inr ⟨.inr (by first | trivial | exact h | exact h.ch | exact (h.rem Rem.head).ch | exact ((h.rem Rem.head).rem Rem.head).ch | exact (((h.rem Rem.head).rem Rem.head).rem Rem.head).ch), trivial⟩, trivial⟩, trivial⟩) (fun _ h => trivial) ?_
              refine QuP.cons rfl (fun wq hq => (RW.assign rfl rfl RW.jn)) ?_
              refine QuP.nil ?_
              refine UW.nil (EX.bkN (EX.seq (CW.region ?_)))
              refine RW.add rfl rfl rfl (wrap64 (by omega) (by omega)) ?_
              refine RW.move rfl rfl ?_
              refine RW.nil ?_
              -- mq: loopend
              refine EX.lpN (2, v50) (by dsimp only; omega) (by dsimp only; omega) (by repeat (first | exact Sub.nil | refine Sub.cons (by rfl) ?_)) (fun w' hw' => ?_)
              dsimp only
              rw [estr_step (b := b) (k := 1) (p := (b.r2, b.c2)) rfl]
              exact hw'
            · skip
              refine CW.skip (EX.seq (CW.seq (CW.block (CW.seq (CW.region ?_)))))
              refine RW.ixValS (q := 2) Tryd.underlying56 sc55 rfl rfl rfl (by omega) (by omega) rfl ?_
              -- mq: at
              refine RW.assign rfl rfl ?_
              refine RW.nil (EX.seq ?_)
              -- mq: region
              have hp := hpos (b.r3, b.c3) (by simp [BlkV.pos])
              refine CW.drawU [0, 1, 2, 3, 4, 6, 7, 8, 9] 4 [[(5, false, []), (10, false, []), (11, false, []), (12, false, [13])]] (Ch [blk g1 b.cells 26]) mixed (by kernel_rfl) (fun _ hw => hw.drew) (fun _ h => (by first | trivial | exact h | exact h.ch | exact (h.rem Rem.head).ch | exact ((h.rem Rem.head).rem Rem.head).ch | exact (((h.rem Rem.head).rem Rem.head).rem Rem.head).ch)) ?_
              refine QuP.cons rfl (fun wq hq => (RW.move rfl rfl RW.jn)) ?_
              refine QuP.cons rfl (fun wq hq => (RW.move rfl rfl RW.jn)) ?_
              refine QuP.cons rfl (fun wq hq => (RW.nilChk rfl rfl RW.jn)) ?_
              refine QuP.cons rfl (fun wq hq => (RW.fieldB fl24x0 rfl rfl RW.jn)) ?_
              refine QuP.cons rfl (fun wq hq => (RW.load1 sc3 rfl rfl (fun w1 e1 => by subst e1; exact hq.blk_cell (by first | exact Has.head | exact Has.tail Has.head | exact Has.tail (Has.tail Has.head) | exact Has.tail (Has.tail (Has.tail Has.head)) | exact Has.tail (Has.tail (Has.tail (Has.tail Has.head))) | exact Has.tail (Has.tail (Has.tail (Has.tail (Has.tail Has.head)))) | exact Has.tail (Has.tail (Has.tail (Has.tail (Has.tail (Has.tail Has.head)))))) rfl) RW.jn)) ?_
              refine QuP.cons rfl (fun wq hq => (RW.move rfl rfl RW.jn)) ?_
              refine QuP.cons rfl (fun wq hq => (RW.nilChk rfl rfl RW.jn)) ?_
              refine QuP.cons rfl (fun wq hq => (RW.fieldB fl24x1 rfl rfl RW.jn)) ?_
              refine QuP.cons rfl (fun wq hq => (RW.load1 sc3 rfl rfl (fun w1 e1 => by subst e1; exact hq.blk_cell (by first | exact Has.head | exact Has.tail Has.head | exact Has.tail (Has.tail Has.head) | exact Has.tail (Has.tail (Has.tail Has.head)) | exact Has.tail (Has.tail (Has.tail (Has.tail Has.head))) | exact Has.tail (Has.tail (Has.tail (Has.tail (Has.tail Has.head)))) | exact Has.tail (Has.tail (Has.tail (Has.tail (Has.tail (Has.tail Has.head)))))) rfl) RW.jn)) ?_
              refine QuP.nil ?_
              refine UW.step [_] rfl (List.forall_mem_cons.2 ⟨?_, by simp⟩)
              refine RW.call rfl caItoa rfl (fun w' hw' => itoa_c w' (hg.ext hw'.ext) b.r3 hp.1) ?_
              refine RW.st (fun _ => True) (fun _ h => .inr (by first | trivial | exact h | exact h.ch | exact (h.rem Rem.head).ch | exact ((h.rem Rem.head).rem Rem.head).ch | exact (((h.rem Rem.head).rem Rem.head).rem Rem.head).ch)) (fun _ h => trivial) ?_
              refine QuP.nil ?_
              refine UW.step [_] rfl (List.forall_mem_cons.2 ⟨?_, by simp⟩)
              refine RW.call rfl caItoa rfl (fun w' hw' => itoa_c w' (hg.ext hw'.ext) b.c3 hp.2) ?_
              refine RW.st (fun _ => True) (fun _ h => .inr ⟨.inr (by first | trivial | exact h | exact h.ch | exact (h.rem Rem.head).ch | exact ((h.rem Rem.head).rem Rem.head).ch | exact (((h.rem Rem.head).rem Rem.head).rem Rem.head).ch), trivial⟩) (fun _ h => trivial) ?_
              refine QuP.nil ?_
              refine UW.step [_] rfl (List.forall_mem_cons.2 ⟨?_, by simp⟩)
              refine RW.buildSlc sl33 rfl rfl rfl rfl (fun g49 hg49 hf49 => ?_)
              refine RW.st (fun _ => True) (fun _ h => .inr ⟨.inr ⟨.inr (by first | trivial | exact h | exact h.ch | exact (h.rem Rem.head).ch | exact ((h.rem Rem.head).rem Rem.head).ch | exact (((h.rem Rem.head).rem Rem.head).rem Rem.head).ch), trivial⟩, trivial⟩) (fun _ h => trivial) ?_
              refine QuP.nil ?_
              refine UW.step [_] rfl (List.forall_mem_cons.2 ⟨?_, by simp⟩)
              refine RW.append1 sl33 rfl rfl rfl (by first | exact Rem.head | exact Rem.tail Rem.head | exact Rem.tail (Rem.tail Rem.head) | exact Rem.tail (Rem.tail (Rem.tail Rem.head)) | exact Rem.tail (Rem.tail (Rem.tail (Rem.tail Rem.head))) | exact Rem.tail (Rem.tail (Rem.tail (Rem.tail (Rem.tail Rem.head)))) | exact Rem.tail (Rem.tail (Rem.tail (Rem.tail (Rem.tail (Rem.tail Rem.head)))))) (fun _ => by first | exact Upd.head | exact Upd.tail Upd.head | exact Upd.tail (Upd.tail Upd.head) | exact Upd.tail (Upd.tail (Upd.tail Upd.head)) | exact Upd.tail (Upd.tail (Upd.tail (Upd.tail Upd.head))) | exact Upd.tail (Upd.tail (Upd.tail (Upd.tail (Upd.tail Upd.head)))) | exact Upd.tail (Upd.tail (Upd.tail (Upd.tail (Upd.tail (Upd.tail Upd.head)))))) rfl (by repeat (first | exact Ones.nil | exact Enc.ones _ _ | refine Ones.cons rfl ?_)) (by simp only [maxLen]; omega) (by omega) (fun v50 hv50 => ?_)
              refine RW.st (fun _ => True) (fun _ h => .inr ⟨.inr ⟨.inr ⟨.inr (by first | trivial | exact h | exact h.ch | exact (h.rem Rem.head).ch | exact ((h.rem Rem.head).rem Rem.head).ch | exact (((h.rem Rem.head).rem Rem.head).rem Rem.head).ch), trivial⟩, trivial⟩, trivial⟩) (fun _ h => trivial) ?_
              refine QuP.cons rfl (fun wq hq => (RW.assign rfl rfl RW.jn)) ?_
              refine QuP.nil ?_
              refine UW.nil (EX.bkN (EX.seq (CW.region ?_)))
              refine RW.add rfl rfl rfl (wrap64 (by omega) (by omega)) ?_
              refine RW.move rfl rfl ?_
              refine RW.nil ?_
              -- mq: loopend
              refine EX.lpN (3, v50) (by dsimp only; omega) (by dsimp only; omega) (by repeat (first | exact Sub.nil | refine Sub.cons (by rfl) ?_)) (fun w' hw' => ?_)
              dsimp only
              rw [estr_step (b := b) (k := 2) (p := (b.r3, b.c3)) rfl]
              exact hw'
            · skip
              refine CW.skip (EX.seq (CW.seq (CW.block (CW.seq (CW.region ?_)))))
              refine RW.ixValS (q := 3) Tryd.underlying56 sc55 rfl rfl rfl (by omega) (by omega) rfl ?_
              -- mq: at
              refine RW.assign rfl rfl ?_
              refine RW.nil (EX.seq ?_)
              -- mq: region
              have hp := hpos (b.r4, b.c4) (by simp [BlkV.pos])
              refine CW.drawU [0, 1, 2, 3, 4, 6, 7, 8, 9] 4 [[(5, false, []), (10, false, []), (11, false, []), (12, false, [13])]] (Ch [blk g1 b.cells 26]) mixed (by kernel_rfl) (fun _ hw => hw.drew) (fun _ h => (by first | trivial | exact h | exact h.ch | exact (h.rem Rem.head).ch | exact ((h.rem Rem.head).rem Rem.head).ch | exact (((h.rem Rem.head).rem Rem.head).rem Rem.head).ch)) ?_
              refine QuP.cons rfl (fun wq hq => (RW.move rfl rfl RW.jn)) ?_
              refine QuP.cons rfl (fun wq hq => (RW.move rfl rfl RW.jn)) ?_
              refine QuP.cons rfl (fun wq hq => (RW.nilChk rfl rfl RW.jn)) ?_
              refine QuP.cons rfl (fun wq hq => (RW.fieldB fl24x0 rfl rfl RW.jn)) ?_
              refine QuP.cons rfl (fun wq hq => (RW.load1 sc3 rfl rfl (fun w1 e1 => by subst e1; exact hq.blk_cell (by first | exact Has.head | exact Has.tail Has.head | exact Has.tail (Has.tail Has.head) | exact Has.tail (Has.tail (Has.tail Has.head)) | exact Has.tail (Has.tail (Has.tail (Has.tail Has.head))) | exact Has.tail (Has.tail (Has.tail (Has.tail (Has.tail Has.head)))) | exact Has.tail (Has.tail (Has.tail (Has.tail (Has.tail (Has.tail Has.head)))))) rfl) RW.jn)) ?_
              refine QuP.cons rfl (fun wq hq => (RW.move rfl rfl RW.jn)) ?_
              refine QuP.cons rfl (fun wq hq => (RW.nilChk rfl rfl RW.jn)) ?_
              refine QuP.cons rfl (fun wq hq => (RW.fieldB fl24x1 rfl rfl RW.jn)) ?_
              refine QuP.cons rfl (fun wq hq => (RW.load1 sc3 rfl rfl (fun w1 e1 => by subst e1; exact hq.blk_cell (by first | exact Has.head | exact Has.tail Has.head | exact Has.tail (Has.tail Has.head) | exact Has.tail (Has.tail (Has.tail Has.head)) | exact Has.tail (Has.tail (Has.tail (Has.tail Has.head))) | exact Has.tail (Has.tail (Has.tail (Has.tail (Has.tail Has.head)))) | exact Has.tail (Has.tail (Has.tail (Has.tail (Has.tail (Has.tail Has.head)))))) rfl) RW.jn)) ?_
              refine QuP.nil ?_
              refine UW.step [_] rfl (List.forall_mem_cons.2 ⟨?_, by simp⟩)
              refine RW.call rfl caItoa rfl (fun w' hw' => itoa_c w' (hg.ext hw'.ext) b.r4 hp.1) ?_
              refine RW.st (fun _ => True) (fun _ h => .inr (by first | trivial | exact h | exact h.ch | exact (h.rem Rem.head).ch | exact ((h.rem Rem.head).rem Rem.head).ch | exact (((h.rem Rem.head).rem Rem.head).rem Rem.head).ch)) (fun _ h => trivial) ?_
              refine QuP.nil ?_
              refine UW.step [_] rfl (List.forall_mem_cons.2 ⟨?_, by simp⟩)
              refine RW.call rfl caItoa rfl (fun w' hw' => itoa_c w' (hg.ext hw'.ext) b.c4 hp.2) ?_
              refine RW.st (fun _ => True) (fun _ h => .inr ⟨.inr (by first | trivial | exact h | exact h.ch | exact (h.rem Rem.head).ch | exact ((h.rem Rem.head).rem Rem.head).ch | exact (((h.rem Rem.head).rem Rem.head).rem Rem.head).ch), trivial⟩) (fun _ h => trivial) ?_
              refine QuP.nil ?_
              refine UW.step [_] rfl (List.forall_mem_cons.2 ⟨?_, by simp⟩)
              refine RW.buildSlc sl33 rfl rfl rfl rfl (fun g49 hg49 hf49 => ?_)
              refine RW.st (fun _ => True) (fun _ h => .inr ⟨.inr ⟨.inr (by first | trivial | exact h | exact h.ch | exact (h.rem Rem.head).ch | exact ((h.rem Rem.head).rem Rem.head).ch | exact (((h.rem Rem.head).rem Rem.head).rem Rem.head).ch), trivial⟩, trivial⟩) (fun _ h => trivial) ?_
              refine QuP.nil ?_
              refine UW.step [_] rfl (List.forall_mem_cons.2 ⟨?_, by simp⟩)
              refine RW.append1 sl33 rfl rfl rfl (by first | exact Rem.head | exact Rem.tail Rem.head | exact Rem.tail (Rem.tail Rem.head) | exact Rem.tail (Rem.tail (Rem.tail Rem.head)) | exact Rem.tail (Rem.tail (Rem.tail (Rem.tail Rem.head))) | exact Rem.tail (Rem.tail (Rem.tail (Rem.tail (Rem.tail Rem.head)))) | exact Rem.tail (Rem.tail (Rem.tail (Rem.tail (Rem.tail (Rem.tail Rem.head)))))) (fun _ => by first | exact Upd.head | exact Upd.tail Upd.head | exact Upd.tail (Upd.tail Upd.head) | exact Upd.tail (Upd.tail (Upd.tail Upd.head)) | exact Upd.tail (Upd.tail (Upd.tail (Upd.tail Upd.head))) | exact Upd.tail (Upd.tail (Upd.tail (Upd.tail (Upd.tail Upd.head)))) | exact Upd.tail (Upd.tail (Upd.tail (Upd.tail (Upd.tail (Upd.tail Upd.head)))))) rfl (by repeat (first | exact Ones.nil | exact Enc.ones _ _ | refine Ones.cons rfl ?_)) (by simp only [maxLen]; omega) (by omega) (fun v50 hv50 => ?_)
              refine RW.st (fun _ => True) (fun _ h => .inr ⟨.inr ⟨.inr ⟨.inr (by first | trivial | exact h | exact h.ch | exact (h.rem Rem.head).ch | exact ((h.rem Rem.head).rem Rem.head).ch | exact (((h.rem Rem.head).rem Rem.head).rem Rem.head).ch), trivial⟩, trivial⟩, trivial⟩) (fun _ h => trivial) ?_
              refine QuP.cons rfl (fun wq hq => (RW.assign rfl rfl RW.jn)) ?_
              refine QuP.nil ?_
              refine UW.nil (EX.bkN (EX.seq (CW.region ?_)))
              refine RW.add rfl rfl rfl (wrap64 (by omega) (by omega)) ?_
              refine RW.move rfl rfl ?_
              refine RW.nil ?_
              -- mq: loopend
              refine EX.lpN (4, v50) (by dsimp only; omega) (by dsimp only; omega) (by repeat (first | exact Sub.nil | refine Sub.cons (by rfl) ?_)) (fun w' hw' => ?_)
              dsimp only
              rw [estr_step (b := b) (k := 3) (p := (b.r4, b.c4)) rfl]
              exact hw'
            · skip
              refine CW.skip (EX.seq (CW.seq (CW.block (CW.seq (CW.region ?_)))))
              refine RW.ixValS (q := 4) Tryd.underlying56 sc55 rfl rfl rfl (by omega) (by omega) rfl ?_
              -- mq: at
              refine RW.assign rfl rfl ?_
              refine RW.nil (EX.seq ?_)
              -- mq: region
              have hp := hpos (b.r5, b.c5) (by simp [BlkV.pos])
              refine CW.drawU [0, 1, 2, 3, 4, 6, 7, 8, 9] 4 [[(5, false, []), (10, false, []), (11, false, []), (12, false, [13])]] (Ch [blk g1 b.cells 26]) mixed (by kernel_rfl) (fun _ hw => hw.drew) (fun _ h => (by first | trivial | exact h | exact h.ch | exact (h.rem Rem.head).ch | exact ((h.rem Rem.head).rem Rem.head).ch | exact (((h.rem Rem.head).rem Rem.head).rem Rem.head).ch)) ?_
              refine QuP.cons rfl (fun wq hq => (RW.move rfl rfl RW.jn)) ?_
              refine QuP.cons rfl (fun wq hq => (RW.move rfl rfl RW.jn)) ?_
              refine QuP.cons rfl (fun wq hq => (RW.nilChk rfl rfl RW.jn)) ?_
              refine QuP.cons rfl (fun wq hq => (RW.fieldB fl24x0 rfl rfl RW.jn)) ?_
              refine QuP.cons rfl (fun wq hq => (RW.load1 sc3 rfl rfl (fun w1 e1 => by subst e1; exact hq.blk_cell (by first | exact Has.head | exact Has.tail Has.head | exact Has.tail (Has.tail Has.head) | exact Has.tail (Has.tail (Has.tail Has.head)) | exact Has.tail (Has.tail (Has.tail (Has.tail Has.head))) | exact Has.tail (Has.tail (Has.tail (Has.tail (Has.tail Has.head)))) | exact Has.tail (Has.tail (Has.tail (Has.tail (Has.tail (Has.tail Has.head)))))) rfl) RW.jn)) ?_
              refine QuP.cons rfl (fun wq hq => (RW.move rfl rfl RW.jn)) ?_
              refine QuP.cons rfl (fun wq hq => (RW.nilChk rfl rfl RW.jn)) ?_
              refine QuP.cons rfl (fun wq hq => (RW.fieldB fl24x1 rfl rfl RW.jn)) ?_
              refine QuP.cons rfl (fun wq hq => (RW.load1 sc3 rfl rfl (fun w1 e1 => by subst e1; exact hq.blk_cell (by first | exact Has.head | exact Has.tail Has.head | exact Has.tail (Has.tail Has.head) | exact Has.tail (Has.tail (Has.tail Has.head)) | exact Has.tail (Has.tail (Has.tail (Has.tail Has.head))) | exact Has.tail (Has.tail (Has.tail (Has.tail (Has.tail Has.head)))) | exact Has.tail (Has.tail (Has.tail (Has.tail (Has.tail (Has.tail Has.head)))))) rfl) RW.jn)) ?_
              refine QuP.nil ?_
              refine UW.step [_] rfl (List.forall_mem_cons.2 ⟨?_, by simp⟩)
              refine RW.call rfl caItoa rfl (fun w' hw' => itoa_c w' (hg.ext hw'.ext) b.r5 hp.1) ?_
              refine RW.st (fun _ => True) (fun _ h => .inr (by first | trivial | exact h | exact h.ch | exact (h.rem Rem.head).ch | exact ((h.rem Rem.head).rem Rem.head).ch | exact (((h.rem Rem.head).rem Rem.head).rem Rem.head).ch)) (fun _ h => trivial) ?_
              refine QuP.nil ?_
              refine UW.step [_] rfl (List.forall_mem_cons.2 ⟨?_, by simp⟩)
              refine RW.call rfl caItoa rfl (fun w' hw' => itoa_c w' (hg.ext hw'.ext) b.c5 hp.2) ?_
              refine RW.st (fun _ => True) (fun _ h => .inr ⟨.inr (by first | trivial | exact h | exact h.ch | exact (h.rem Rem.head).ch | exact ((h.rem Rem.head).rem Rem.head).ch | exact (((h.rem Rem.head).rem Rem.head).rem Rem.head).ch), trivial⟩) (fun _ h => trivial) ?_
              refine QuP.nil ?_
              refine UW.step [_] rfl (List.forall_mem_cons.2 ⟨?_, by simp⟩)
              refine RW.buildSlc sl33 rfl rfl rfl rfl (fun g49 hg49 hf49 => ?_)
              refine RW.st (fun _ => True) (fun _ h => .inr ⟨.inr ⟨.inr (by first | trivial | exact h | exact h.ch | exact (h.rem Rem.head).ch | exact ((h.rem Rem.head).rem Rem.head).ch | exact (((h.rem Rem.head).rem Rem.head).rem Rem.head).ch), trivial⟩, trivial⟩) (fun _ h => trivial) ?_
              refine QuP.nil ?_
              refine UW.step [_] rfl (List.forall_mem_cons.2 ⟨?_, by simp⟩)
              refine RW.append1 sl33 rfl rfl rfl (by first | exact Rem.head | exact Rem.tail Rem.head | exact Rem.tail (Rem.tail Rem.head) | exact Rem.tail (Rem.tail (Rem.tail Rem.head)) | exact Rem.tail (Rem.tail (Rem.tail (Rem.tail Rem.head))) | exact Rem.tail (Rem.tail (Rem.tail (Rem.tail (Rem.tail Rem.head)))) | exact Rem.tail (Rem.tail (Rem.tail (Rem.tail (Rem.tail (Rem.tail Rem.head)))))) (fun _ => by first | exact Upd.head | exact Upd.tail Upd.head | exact Upd.tail (Upd.tail Upd.head) | exact Upd.tail (Upd.tail (Upd.tail Upd.head)) | exact Upd.tail (Upd.tail (Upd.tail (Upd.tail Upd.head))) | exact Upd.tail (Upd.tail (Upd.tail (Upd.tail (Upd.tail Upd.head)))) | exact Upd.tail (Upd.tail (Upd.tail (Upd.tail (Upd.tail (Upd.tail Upd.head)))))) rfl (by repeat (first | exact Ones.nil | exact Enc.ones _ _ | refine Ones.cons rfl ?_)) (by simp only [maxLen]; omega) (by omega) (fun v50 hv50 => ?_)
              refine RW.st (fun _ => True) (fun _ h => .inr ⟨.inr ⟨.inr ⟨.inr (by first | trivial | exact h | exact h.ch | exact (h.rem Rem.head).ch | exact ((h.rem Rem.head).rem Rem.head).ch | exact (((h.rem Rem.head).rem Rem.head).rem Rem.head).ch), trivial⟩, trivial⟩, trivial⟩) (fun _ h => trivial) ?_
              refine QuP.cons rfl (fun wq hq => (RW.assign rfl rfl RW.jn)) ?_
              refine QuP.nil ?_
              refine UW.nil (EX.bkN (EX.seq (CW.region ?_)))
              refine RW.add rfl rfl rfl (wrap64 (by omega) (by omega)) ?_
              refine RW.move rfl rfl ?_
              refine RW.nil ?_
              -- mq: loopend
              refine EX.lpN (5, v50) (by dsimp only; omega) (by dsimp only; omega) (by repeat (first | exact Sub.nil | refine Sub.cons (by rfl) ?_)) (fun w' hw' => ?_)
              dsimp only
              rw [estr_step (b := b) (k := 4) (p := (b.r5, b.c5)) rfl]
              exact hw'
          · skip
            obtain rfl : k = 5 := by omega
            refine CW.exit (EX.seqE (EX.lpE (EX.bkE (EX.seq (CW.seq ?_)))))
            -- mq: region
            have hjl := lineF_len hb ht
            refine CW.drawU [0, 1, 2, 4, 5] 5 [[(3, false, []), (6, false, []), (7, false, []), (8, false, []), (9, false, [10, 11])]] (Ch [blk g1 b.cells 26]) mixed (by kernel_rfl) (fun _ hw => hw.drew) (fun _ h => (by first | trivial | exact h | exact h.ch | exact (h.rem Rem.head).ch | exact ((h.rem Rem.head).rem Rem.head).ch | exact (((h.rem Rem.head).rem Rem.head).rem Rem.head).ch)) ?_
            refine QuP.cons rfl (fun wq hq => (RW.move rfl rfl RW.jn)) ?_
            refine QuP.cons rfl (fun wq hq => (RW.fieldB fl26x10 rfl rfl RW.jn)) ?_
            refine QuP.cons rfl (fun wq hq => (RW.load1 sc9 rfl rfl (fun w1 e1 => by subst e1; exact hq.blk_cell (by first | exact Has.head | exact Has.tail Has.head | exact Has.tail (Has.tail Has.head) | exact Has.tail (Has.tail (Has.tail Has.head)) | exact Has.tail (Has.tail (Has.tail (Has.tail Has.head))) | exact Has.tail (Has.tail (Has.tail (Has.tail (Has.tail Has.head)))) | exact Has.tail (Has.tail (Has.tail (Has.tail (Has.tail (Has.tail Has.head)))))) rfl) RW.jn)) ?_
            refine QuP.cons rfl (fun wq hq => (RW.fieldB fl26x11 rfl rfl RW.jn)) ?_
            refine QuP.cons rfl (fun wq hq => (RW.load1 sc9 rfl rfl (fun w1 e1 => by subst e1; exact hq.blk_cell (by first | exact Has.head | exact Has.tail Has.head | exact Has.tail (Has.tail Has.head) | exact Has.tail (Has.tail (Has.tail Has.head)) | exact Has.tail (Has.tail (Has.tail (Has.tail Has.head))) | exact Has.tail (Has.tail (Has.tail (Has.tail (Has.tail Has.head)))) | exact Has.tail (Has.tail (Has.tail (Has.tail (Has.tail (Has.tail Has.head)))))) rfl) RW.jn)) ?_
            refine QuP.nil ?_
            refine UW.step [_] rfl (List.forall_mem_cons.2 ⟨?_, by simp⟩)
            refine RW.call rfl ca30 rfl (fun w' _ => data_c w' b.dir (by omega)) ?_
            refine RW.st (fun _ => True) (fun _ h => .inr (by first | trivial | exact h | exact h.ch | exact (h.rem Rem.head).ch | exact ((h.rem Rem.head).rem Rem.head).ch | exact (((h.rem Rem.head).rem Rem.head).rem Rem.head).ch)) (fun _ h => trivial) ?_
            refine QuP.nil ?_
            refine UW.step [_] rfl (List.forall_mem_cons.2 ⟨?_, by simp⟩)
            refine RW.call rfl ca30 rfl (fun w' _ => data_c w' b.line (by omega)) ?_
            refine RW.st (fun _ => True) (fun _ h => .inr ⟨.inr (by first | trivial | exact h | exact h.ch | exact (h.rem Rem.head).ch | exact ((h.rem Rem.head).rem Rem.head).ch | exact (((h.rem Rem.head).rem Rem.head).rem Rem.head).ch), trivial⟩) (fun _ h => trivial) ?_
            refine QuP.nil ?_
            refine UW.step [_] rfl (List.forall_mem_cons.2 ⟨?_, by simp⟩)
            refine RW.buildSlc sl33 rfl rfl rfl rfl (fun g59 hg59 hf59 => ?_)
            refine RW.st (fun _ => True) (fun _ h => .inr ⟨.inr ⟨.inr (by first | trivial | exact h | exact h.ch | exact (h.rem Rem.head).ch | exact ((h.rem Rem.head).rem Rem.head).ch | exact (((h.rem Rem.head).rem Rem.head).rem Rem.head).ch), trivial⟩, trivial⟩) (fun _ h => trivial) ?_
            refine QuP.nil ?_
            refine UW.step [_] rfl (List.forall_mem_cons.2 ⟨?_, by simp⟩)
            refine RW.append1 sl33 rfl rfl rfl (by first | exact Rem.head | exact Rem.tail Rem.head | exact Rem.tail (Rem.tail Rem.head) | exact Rem.tail (Rem.tail (Rem.tail Rem.head)) | exact Rem.tail (Rem.tail (Rem.tail (Rem.tail Rem.head))) | exact Rem.tail (Rem.tail (Rem.tail (Rem.tail (Rem.tail Rem.head)))) | exact Rem.tail (Rem.tail (Rem.tail (Rem.tail (Rem.tail (Rem.tail Rem.head)))))) (fun _ => by first | exact Upd.head | exact Upd.tail Upd.head | exact Upd.tail (Upd.tail Upd.head) | exact Upd.tail (Upd.tail (Upd.tail Upd.head)) | exact Upd.tail (Upd.tail (Upd.tail (Upd.tail Upd.head))) | exact Upd.tail (Upd.tail (Upd.tail (Upd.tail (Upd.tail Upd.head)))) | exact Upd.tail (Upd.tail (Upd.tail (Upd.tail (Upd.tail (Upd.tail Upd.head)))))) rfl (by repeat (first | exact Ones.nil | exact Enc.ones _ _ | refine Ones.cons rfl ?_)) (by simp only [maxLen]; omega) (by omega) (fun v60 hv60 => ?_)
            refine RW.st (fun _ => True) (fun _ h => .inr ⟨.inr ⟨.inr ⟨.inr (by first | trivial | exact h | exact h.ch | exact (h.rem Rem.head).ch | exact ((h.rem Rem.head).rem Rem.head).ch | exact (((h.rem Rem.head).rem Rem.head).rem Rem.head).ch), trivial⟩, trivial⟩, trivial⟩) (fun _ h => trivial) ?_
            refine QuP.nil ?_
            refine UW.step [_] rfl (List.forall_mem_cons.2 ⟨?_, by simp⟩)
            refine RW.call rfl caJoin rfl (fun w' hw' => join_c w' _ _ _ (wordsF b) [32] (by have := hw'.has Has.head; rw [wordsF_w5, Enc.all_append]; exact this) (wordsF_len b) (by decide) (by show (lineF b).length ≤ _; omega)) ?_
            refine RW.st (fun _ => True) (fun _ h => .inr ⟨.inr ⟨.inr ⟨.inr ⟨.inr (by first | trivial | exact h | exact h.ch | exact (h.rem Rem.head).ch | exact ((h.rem Rem.head).rem Rem.head).ch | exact (((h.rem Rem.head).rem Rem.head).rem Rem.head).ch), trivial⟩, trivial⟩, trivial⟩, trivial⟩) (fun _ h => trivial) ?_
            refine QuP.cons rfl (fun wq hq => (RW.assign rfl rfl RW.jn)) ?_
            refine QuP.cons rfl (fun wq hq => (RW.assign rfl rfl RW.jn)) ?_
            refine QuP.nil ?_
            refine UW.nil (EX.seq (CW.ret ?_))
            refine EX.fin2 Tryd.results15 rfl rfl (fun wz hw => ?_)
            -- mq: done
            exact ⟨by rw [lineR, if_pos ht]; rfl, hw.ext⟩
end Go.Proofs.YtnkdabjahmjdoaaDoor.Mq

namespace Go.Proofs.YtnkdabjahmjdoaaDoor.Mq
open Go Go.RowKit Go.Proofs

def bigB (b : BlkV) : Bool := decide (400 < b.dir.length) || decide (400 < b.line.length)
def greatD (L : List BlkV) : Bool := (L.take 60).any bigB || decide (60 < L.length)
theorem great_c (w : World) (F : Nat → Prop) (A : Option Addr) (n c : Nat) (L : List BlkV) (hr : Rd EBlk w F A n c L) :
    Calls Tryd.prog 9 [.slice A n c].toArray w (fun e w' => e = .returned (.bool (greatD L)) ∧ Ext [] w w') := by
  have hl := hr.len
  refine calls (n := 33) Tryd.func9 rfl Tryd.ntmps9 rfl ?_
  refine CW.sub (H' := SH w [] []) ?_ (Sub.refl _) (fun x hx => SH.start' _ _ hx)
  refine CW.seq (CW.region ?_)
  refine RW.assign rfl rfl ?_
  refine RW.nil (EX.seq (CW.seq (CW.seq (CW.region ?_))))
  refine RW.assign rfl rfl ?_
  refine RW.nil (EX.seq (CW.block ?_))
  -- mq: loop
  refine CW.loop (ι := Nat) (fun k => [(0, .slice A n c), (3, .int .i64 (k : Int))]) (fun _ => SH w [] []) (fun k => k ≤ n ∧ k ≤ 60 ∧ (L.take k).any bigB = false) (fun k => n - k) ?_ ?_
  · exact fun w hw => ⟨0, ⟨Nat.zero_le _, by decide, by simp⟩, (by repeat (first | exact Sub.nil | refine Sub.cons (by rfl) ?_)), hw⟩
  · rintro k ⟨hk, hk6, hall⟩
    have hend : (¬ k < n ∨ ¬ k < 60) → greatD L = decide (60 < (n : Int)) := fun h => by
      unfold greatD
      rw [show (L.take 60).any bigB = false from by
        rcases (show k = n ∨ k = 60 by omega) with e | e
        · rw [List.take_of_length_le (by omega)] at hall
          rw [List.any_eq_false] at hall ⊢
          exact fun x hx => hall x (List.mem_of_mem_take hx)
        · rw [e] at hall; exact hall, Bool.false_or]
      exact decide_eq_decide.2 (by omega)
    refine CW.seq (CW.seq (CW.region ?_))
    refine RW.move rfl rfl ?_
    refine RW.move rfl rfl ?_
    refine RW.lenSl Tryd.underlying28 rfl rfl ?_
    refine RW.lss rfl rfl rfl ?_
    refine RW.move rfl rfl ?_
    -- mq: guard slot 8
    refine RW.casesB 8 rfl (fun h1 => ?_) (fun h1 => ?_)
    · skip
      have h1p := of_decide_eq_true h1
      refine RW.guardT rfl rfl h1 ?_
      refine RW.move rfl rfl ?_
      refine RW.guardT rfl rfl h1 ?_
      refine RW.lss rfl rfl rfl ?_
      refine RW.pickB rfl rfl h1 rfl ?_
      refine RW.nil (EX.seq ?_)
      -- mq: cond
      first | refine CW.condD rfl (fun h2 => ?_) (fun h2 => ?_) | refine CW.cond rfl (fun h2 => ?_) (fun h2 => ?_)
      · skip
        obtain ⟨b, hb⟩ : ∃ b, L[k]? = some b := ⟨L[k]'(by omega), List.getElem?_eq_getElem _⟩
        obtain ⟨ad, hA, _, hcell⟩ := hr.at_ hb
        have htk : (L.take (k + 1)).any bigB = ((L.take k).any bigB || bigB b) := by
          rw [List.take_add_one, hb, Option.toList_some, List.any_append]; simp
        have hbig : bigB b = true → greatD L = true := fun h => by
          unfold greatD
          rw [List.any_eq_true.2 ⟨b, List.mem_of_getElem? (i := k) (by rw [List.getElem?_take, if_pos (by omega)]; exact hb), h⟩]; rfl
        refine CW.skip (EX.seq (CW.seq (CW.block (CW.seq (CW.region ?_)))))
        refine RW.move rfl rfl ?_
        refine RW.move rfl rfl ?_
        refine RW.ixAddr (q := k) sl28 rfl rfl rfl (by first | rfl | assumption) (by omega) (by omega) ?_
        refine RW.fieldP fl26x10 rfl rfl ?_
        refine RW.load1 sc9 rfl rfl (fun w' hw' => hw'.base_cell (hcell 15 _ rfl) (by simp)) ?_
        refine RW.lenS Tryd.underlying9 rfl rfl ?_
        refine RW.gtr rfl rfl rfl ?_
        refine RW.move rfl rfl ?_
        -- mq: guard slot 21
        refine RW.casesB 21 rfl (fun h3 => ?_) (fun h3 => ?_)
        · skip
          have h3p := of_decide_eq_true h3
          refine RW.guardF rfl rfl rfl h3 ?_
          refine RW.guardF rfl rfl rfl h3 ?_
          refine RW.guardF rfl rfl rfl h3 ?_
          refine RW.guardF rfl rfl rfl h3 ?_
          refine RW.guardF rfl rfl rfl h3 ?_
          refine RW.guardF rfl rfl rfl h3 ?_
          refine RW.guardF rfl rfl rfl h3 ?_
          refine RW.pickB rfl rfl h3 rfl ?_
          refine RW.nil (EX.seq ?_)
          -- mq: cond
          refine CW.condT rfl (rfl) ?_
          refine CW.seq (CW.region ?_)
          refine RW.assign rfl rfl ?_
          refine RW.nil (EX.seq (CW.ret (EX.bkR (EX.seqR (EX.lpR (EX.bkR (EX.seqR ?_)))))))
          refine EX.fin1 Tryd.results9 rfl (fun wz hw => ?_)
          -- mq: done
          exact ⟨by rw [hbig (by unfold bigB; rw [decide_eq_true (by omega)]; rfl)], hw.ext⟩
        · skip
          have h3p := of_decide_eq_false h3
          refine RW.guardT rfl rfl h3 ?_
          refine RW.move rfl rfl ?_
          refine RW.guardT rfl rfl h3 ?_
          refine RW.move rfl rfl ?_
          refine RW.guardT rfl rfl h3 ?_
          refine RW.ixAddr (q := k) sl28 rfl rfl rfl (by first | rfl | assumption) (by omega) (by omega) ?_
          refine RW.guardT rfl rfl h3 ?_
          refine RW.fieldP fl26x11 rfl rfl ?_
          refine RW.guardT rfl rfl h3 ?_
          refine RW.load1 sc9 rfl rfl (fun w' hw' => hw'.base_cell (hcell 16 _ rfl) (by simp)) ?_
          refine RW.guardT rfl rfl h3 ?_
          refine RW.lenS Tryd.underlying9 rfl rfl ?_
          refine RW.guardT rfl rfl h3 ?_
          refine RW.gtr rfl rfl rfl ?_
          refine RW.pickC rfl rfl h3 rfl ?_
          refine RW.nil (EX.seq ?_)
          -- mq: cond
          first | refine CW.condD rfl (fun h4 => ?_) (fun h4 => ?_) | refine CW.cond rfl (fun h4 => ?_) (fun h4 => ?_)
          · skip
            refine CW.seq (CW.region ?_)
            refine RW.assign rfl rfl ?_
            refine RW.nil (EX.seq (CW.ret (EX.bkR (EX.seqR (EX.lpR (EX.bkR (EX.seqR ?_)))))))
            refine EX.fin1 Tryd.results9 rfl (fun wz hw => ?_)
            -- mq: done
            exact ⟨by rw [hbig (by unfold bigB; rw [decide_eq_true (show 400 < b.line.length by omega), Bool.or_true])], hw.ext⟩
          · skip
            refine CW.skip (EX.bkN (EX.seq (CW.region ?_)))
            refine RW.move rfl rfl ?_
            refine RW.add rfl rfl rfl (wrap64 (by omega) (by omega)) ?_
            refine RW.assign rfl rfl ?_
            refine RW.nil ?_
            -- mq: loopend
            refine EX.lpN (k + 1) ⟨by omega, by omega, ?_⟩ (by omega) (by repeat (first | exact Sub.nil | refine Sub.cons (by rfl) ?_)) (fun w' hw' => hw')
            rw [htk, hall, bigB, decide_eq_false (show ¬ 400 < b.dir.length by omega), decide_eq_false (show ¬ 400 < b.line.length by omega)]; rfl
      · skip
        refine CW.exit (EX.seqE (EX.lpE (EX.bkE (EX.seq (CW.seq (CW.region ?_))))))
        refine RW.move rfl rfl ?_
        refine RW.lenSl Tryd.underlying28 rfl rfl ?_
        refine RW.gtr rfl rfl rfl ?_
        refine RW.assign rfl rfl ?_
        refine RW.nil (EX.seq (CW.ret ?_))
        refine EX.fin1 Tryd.results9 rfl (fun wz hw => ?_)
        -- mq: done
        exact ⟨by rw [hend (.inr (by omega))], hw.ext⟩
    · skip
      have h1p := of_decide_eq_false h1
      refine RW.guardF rfl rfl rfl h1 ?_
      refine RW.guardF rfl rfl rfl h1 ?_
      refine RW.pickC rfl rfl h1 rfl ?_
      refine RW.nil (EX.seq ?_)
      -- mq: cond
      refine CW.condF rfl (rfl) ?_
      refine CW.exit (EX.seqE (EX.lpE (EX.bkE (EX.seq (CW.seq (CW.region ?_))))))
      refine RW.move rfl rfl ?_
      refine RW.lenSl Tryd.underlying28 rfl rfl ?_
      refine RW.gtr rfl rfl rfl ?_
      refine RW.assign rfl rfl ?_
      refine RW.nil (EX.seq (CW.ret ?_))
      refine EX.fin1 Tryd.results9 rfl (fun wz hw => ?_)
      -- mq: done
      exact ⟨by rw [hend (.inl (by omega))], hw.ext⟩
theorem greatD_one {b : BlkV} (h : greatD [b] = false) : b.dir.length ≤ 400 ∧ b.line.length ≤ 400 := by
  simp [greatD, bigB] at h; omega
def exB : BlkV := ⟨1, 4, 0, 0, 0, 2, 1, 0, 3, 0, 3, 0, 0, true, false, [], [108, 115]⟩
theorem it {n : Nat} (h : n < 10) : Lib.itoa (n : Int) = [UInt8.ofNat (48 + n)] := by rw [Lib.itoa_nonneg, dec_small h]
theorem exB_wf : exB.Wf := ⟨by decide, by decide, by decide⟩
theorem exB_told : toldB exB = true := by decide
theorem exB_words : wordsF exB = [[98, 108, 111, 99, 107], [49], [101, 110, 100, 101, 100], [119, 104, 111, 108, 101], [48], [48], [48], [48], [50], [49], [48], [51], [48], [51], [48], [61], [61, 54, 99, 55, 51]] := by
  have h0 := it (n := 0) (by decide)
  have h1 := it (n := 1) (by decide)
  have h2 := it (n := 2) (by decide)
  have h3 := it (n := 3) (by decide)
  have e1 : Lib.decDigits 1 = [49] := dec_small (by decide)
  unfold wordsF posW exB
  simp only [BlkV.pos, List.flatMap_cons, List.flatMap_nil, e1]
  rw [show Lib.itoa 0 = [48] from h0, show Lib.itoa 1 = [49] from h1, show Lib.itoa 2 = [50] from h2, show Lib.itoa 3 = [51] from h3, show codeW true 0 = Lib.itoa 0 from rfl, show Lib.itoa 0 = [48] from h0]
  rfl
theorem exB_line : lineF exB = [98, 108, 111, 99, 107, 32, 49, 32, 101, 110, 100, 101, 100, 32, 119, 104, 111, 108, 101, 32, 48, 32, 48, 32, 48, 32, 48, 32, 50, 32, 49, 32, 48, 32, 51, 32, 48, 32, 51, 32, 48, 32, 61, 32, 61, 54, 99, 55, 51] := by
  rw [lineF, exB_words]; decide
theorem exB_brief : briefF exB = [91, 49, 93, 32, 101, 110, 100, 101, 100, 32, 48, 32, 108, 115] := by
  have h0 : Lib.itoa 0 = [48] := it (n := 0) (by decide)
  have e1 : Lib.decDigits 1 = [49] := dec_small (by decide)
  unfold briefF brief2 brief1 exB
  dsimp only
  rw [h0, e1]
  decide
theorem awake_c (w : World) (hg : Gl w) : Calls Tryd.prog 10 [].toArray w (fun e w' => e = .returned (.bool true) ∧ Ext [] w w') := by
  refine calls (n := 25) Tryd.func10 rfl Tryd.ntmps10 rfl ?_
  refine CW.sub (H' := SH w [] []) ?_ (Sub.refl _) (fun x hx => SH.start' _ _ hx)
  refine CW.seq (CW.region ?_)
  refine RW.assign rfl rfl ?_
  refine RW.nil (EX.seq (CW.seq (CW.region ?_)))
  refine RW.buildS bu24 rfl rfl rfl ?_
  refine RW.buildS bu24 rfl rfl rfl ?_
  refine RW.buildS bu24 rfl rfl rfl ?_
  refine RW.buildS bu24 rfl rfl rfl ?_
  refine RW.buildS bu26 rfl rfl rfl ?_
  refine RW.allocA ag26 rfl (fun g1 hg1 hf1 => ?_)
  refine RW.storeA ag26 rfl rfl (by first | exact Upd.head | exact Upd.tail Upd.head | exact Upd.tail (Upd.tail Upd.head) | exact Upd.tail (Upd.tail (Upd.tail Upd.head)) | exact Upd.tail (Upd.tail (Upd.tail (Upd.tail Upd.head))) | exact Upd.tail (Upd.tail (Upd.tail (Upd.tail (Upd.tail Upd.head)))) | exact Upd.tail (Upd.tail (Upd.tail (Upd.tail (Upd.tail (Upd.tail Upd.head)))))) (by first | rfl | exact Enc.len _ _) (by repeat (first | exact Ones.nil | exact Enc.ones _ _ | refine Ones.cons rfl ?_)) (by first | exact Nat.le_of_ble_eq_true rfl | (simp only [Enc.len]; decide)) ?_
  refine RW.nil (EX.seq (CW.seq ?_))
  -- mq: region
  refine CW.region ?_
  refine RW.loadBA ag26 rfl rfl (by first | exact Has.head | exact Has.tail Has.head | exact Has.tail (Has.tail Has.head) | exact Has.tail (Has.tail (Has.tail Has.head)) | exact Has.tail (Has.tail (Has.tail (Has.tail Has.head))) | exact Has.tail (Has.tail (Has.tail (Has.tail (Has.tail Has.head)))) | exact Has.tail (Has.tail (Has.tail (Has.tail (Has.tail (Has.tail Has.head)))))) rfl rfl ?_
  refine RW.call (v := .tuple #[.string (bs (lineF exB)), .int .i64 0]) rfl ca15 rfl (fun w' hw' => by have h := line_c w' (hg.ext hw'.ext) exB exB_wf; rw [lineR, if_pos exB_told] at h; exact h) ?_
  refine RW.move rfl rfl ?_
  refine RW.extract rfl rfl rfl ?_
  refine RW.extract rfl rfl rfl ?_
  refine RW.assign rfl rfl ?_
  refine RW.assign rfl rfl ?_
  refine RW.nil (EX.seq (CW.seq (CW.region ?_)))
  refine RW.move rfl rfl ?_
  refine RW.eqlI rfl rfl rfl ?_
  refine RW.move rfl rfl ?_
  refine RW.guardT rfl rfl rfl ?_
  refine RW.move rfl rfl ?_
  refine RW.guardT rfl rfl rfl ?_
  refine RW.eqlS rfl rfl rfl ?_
  refine RW.pickB rfl rfl rfl rfl ?_
  refine RW.move rfl rfl ?_
  refine RW.guardT rfl rfl (decide_eq_true exB_line) ?_
  refine RW.loadBA ag26 rfl rfl (by first | exact Has.head | exact Has.tail Has.head | exact Has.tail (Has.tail Has.head) | exact Has.tail (Has.tail (Has.tail Has.head)) | exact Has.tail (Has.tail (Has.tail (Has.tail Has.head))) | exact Has.tail (Has.tail (Has.tail (Has.tail (Has.tail Has.head)))) | exact Has.tail (Has.tail (Has.tail (Has.tail (Has.tail (Has.tail Has.head)))))) rfl rfl ?_
  refine RW.guardT rfl rfl (decide_eq_true exB_line) ?_
  refine RW.call rfl ca12 rfl (fun w' hw' => brief_c w' (hg.ext hw'.ext) exB exB_wf (by decide)) ?_
  refine RW.guardT rfl rfl (decide_eq_true exB_line) ?_
  refine RW.eqlS rfl rfl rfl ?_
  refine RW.pickB rfl rfl (decide_eq_true exB_line) rfl ?_
  refine RW.assign rfl rfl ?_
  refine RW.nil (EX.seq (CW.ret ?_))
  refine EX.fin1 Tryd.results10 rfl (fun wz hw => ?_)
  -- mq: done
  exact ⟨by rw [decide_eq_true exB_brief], hw.ext⟩
theorem Rd.of_blkK {α : Type} {E : Enc α} {b w : World} {S : List Nat} {cs : List Chunk} (h : SH b S cs w) {g t : Nat} {L : List α} {m : Nat} {xs : List Value} (hb : Has cs (blk g xs t)) (hx : xs = E.all L) (hm : L.length = m) (hl : m ≤ maxLen) :
    Rd E w (fun k => k = g) (some ⟨g, 0, none⟩) m m L := by
  subst hx; exact Rd.of_blk h hb hm hl
theorem briefs_c (w : World) (hg : Gl w) (b : BlkV) (hb : b.Wf) (n : Int) :
    Calls Tryd.prog 3 [.agg b.cells.toArray, .int .i64 n].toArray w (fun e w' => e = .returned (.bool true) ∧ Ext [] w w') := by
  refine calls (n := 55) Tryd.func3 rfl Tryd.ntmps3 rfl ?_
  refine CW.sub (H' := SH w [] []) ?_ (Sub.refl _) (fun x hx => SH.start' _ _ hx)
  refine CW.seq (CW.region ?_)
  refine RW.boxA rfl rfl (fun g2 hg2 hf2 => ?_)
  refine RW.assign rfl rfl ?_
  refine RW.nil (EX.seq (CW.seq (CW.seq ?_)))
  -- mq: region
  refine CW.region ?_
  refine RW.loadBA ag26 rfl rfl (by first | exact Has.head | exact Has.tail Has.head | exact Has.tail (Has.tail Has.head) | exact Has.tail (Has.tail (Has.tail Has.head)) | exact Has.tail (Has.tail (Has.tail (Has.tail Has.head))) | exact Has.tail (Has.tail (Has.tail (Has.tail (Has.tail Has.head)))) | exact Has.tail (Has.tail (Has.tail (Has.tail (Has.tail (Has.tail Has.head)))))) rfl rfl ?_
  refine RW.buildSlc sl28 rfl rfl rfl rfl (fun g8 hg8 hf8 => ?_)
  refine RW.call rfl ca9 rfl (fun w' hw' => great_c w' _ _ _ _ [b] (Rd.of_blkK (E := EBlk) hw' Has.head (by kernel_rfl) rfl (by decide))) ?_
  refine RW.move rfl rfl ?_
  -- mq: guard slot 10
  refine RW.casesB 10 rfl (fun hG => ?_) (fun hG => ?_)
  · skip
    refine RW.guardF rfl rfl rfl hG ?_
    refine RW.guardF rfl rfl rfl hG ?_
    refine RW.pickB rfl rfl hG rfl ?_
    refine RW.nil (EX.seq ?_)
    -- mq: cond
    refine CW.condT rfl (rfl) ?_
    refine CW.seq (CW.region ?_)
    refine RW.call rfl ca10 rfl (fun w' hw' => awake_c w' (hg.ext hw'.ext)) ?_
    refine RW.assign rfl rfl ?_
    refine RW.nil (EX.seq (CW.ret (EX.seqR ?_)))
    refine EX.fin1 Tryd.results3 rfl (fun wz hw => ?_)
    -- mq: done
    exact ⟨rfl, hw.ext⟩
  · skip
    obtain ⟨hd4, hl4⟩ := greatD_one hG
    refine RW.guardT rfl rfl hG ?_
    refine RW.call rfl ca10 rfl (fun w' hw' => awake_c w' (hg.ext hw'.ext)) ?_
    refine RW.guardT rfl rfl hG ?_
    refine RW.not_ rfl rfl ?_
    refine RW.pickC rfl rfl hG rfl ?_
    refine RW.nil (EX.seq ?_)
    -- mq: cond
    refine CW.condF rfl (rfl) ?_
    refine CW.skip (EX.seq (CW.seq ?_))
    -- mq: region
    refine CW.region ?_
    refine RW.move rfl rfl ?_
    refine RW.call rfl ca11 rfl (fun w' _ => phase_c w' n) ?_
    refine RW.move rfl rfl ?_
    refine RW.extract rfl rfl rfl ?_
    refine RW.extract rfl rfl rfl ?_
    refine RW.assign rfl rfl ?_
    refine RW.assign rfl rfl ?_
    refine RW.nil (EX.seq (CW.seq ?_))
    -- mq: seq
    refine CW.seq (CW.region ?_)
    refine RW.move rfl rfl ?_
    refine RW.lss rfl rfl rfl ?_
    refine RW.move rfl rfl ?_
    -- mq: guard slot 22
    refine RW.casesB 22 rfl (fun h1 => ?_) (fun h1 => ?_)
    · skip
      have h1p := of_decide_eq_true h1
      refine RW.guardF rfl rfl rfl h1 ?_
      refine RW.guardF rfl rfl rfl h1 ?_
      refine RW.pickB rfl rfl h1 rfl ?_
      refine RW.nil (EX.seq ?_)
      -- mq: cond
      refine CW.condT rfl (rfl) ?_
      refine CW.seq ?_
      -- mq: region
      refine CW.drawU [0, 1, 2, 3, 4, 5, 6, 7, 9] 2 [[(8, false, []), (10, false, [11, 12, 13])]] (Ch [blk g2 b.cells 26]) mixed (by kernel_rfl) (fun _ hw => hw.drew) (fun _ h => (by first | trivial | exact h | exact h.ch | exact (h.rem Rem.head).ch | exact ((h.rem Rem.head).rem Rem.head).ch | exact (((h.rem Rem.head).rem Rem.head).rem Rem.head).ch)) ?_
      refine QuP.cons rfl (fun wq hq => (RW.move rfl rfl RW.jn)) ?_
      refine QuP.cons rfl (fun wq hq => (RW.eqlS rfl rfl rfl RW.jn)) ?_
      refine QuP.cons rfl (fun wq hq => (RW.move rfl rfl RW.jn)) ?_
      refine QuP.cons rfl (fun wq hq => RW.guardT rfl rfl ((by rw [phaseW, if_neg (by omega), if_neg (by omega), if_neg (by omega), if_neg (by omega), if_neg (by omega)]; rfl)) (RW.move rfl rfl RW.jn)) ?_
      refine QuP.cons rfl (fun wq hq => RW.guardT rfl rfl ((by rw [phaseW, if_neg (by omega), if_neg (by omega), if_neg (by omega), if_neg (by omega), if_neg (by omega)]; rfl)) (RW.not_ rfl rfl RW.jn)) ?_
      refine QuP.cons rfl (fun wq hq => (RW.pickB rfl rfl (by rw [phaseW, if_neg (by omega), if_neg (by omega), if_neg (by omega), if_neg (by omega), if_neg (by omega)]; rfl) rfl RW.jn)) ?_
      refine QuP.cons rfl (fun wq hq => (RW.move rfl rfl RW.jn)) ?_
      refine QuP.cons rfl (fun wq hq => RW.guardT rfl rfl ((by rw [decide_eq_false (by omega)]; rfl)) (RW.loadA ag26 rfl rfl rfl (fun w1 e1 j u hj => by subst e1; exact hq.blk_at (sz := 17) (by first | exact Has.head | exact Has.tail Has.head | exact Has.tail (Has.tail Has.head) | exact Has.tail (Has.tail (Has.tail Has.head)) | exact Has.tail (Has.tail (Has.tail (Has.tail Has.head))) | exact Has.tail (Has.tail (Has.tail (Has.tail (Has.tail Has.head)))) | exact Has.tail (Has.tail (Has.tail (Has.tail (Has.tail (Has.tail Has.head)))))) rfl j u hj) RW.jn)) ?_
      refine QuP.cons rfl (fun wq hq => RW.guardT rfl rfl ((by rw [decide_eq_false (by omega)]; rfl)) (RW.loadA ag26 rfl rfl rfl (fun w1 e1 j u hj => by subst e1; exact hq.blk_at (sz := 17) (by first | exact Has.head | exact Has.tail Has.head | exact Has.tail (Has.tail Has.head) | exact Has.tail (Has.tail (Has.tail Has.head)) | exact Has.tail (Has.tail (Has.tail (Has.tail Has.head))) | exact Has.tail (Has.tail (Has.tail (Has.tail (Has.tail Has.head)))) | exact Has.tail (Has.tail (Has.tail (Has.tail (Has.tail (Has.tail Has.head)))))) rfl j u hj) RW.jn)) ?_
      refine QuP.nil ?_
      refine UW.step [_] rfl (List.forall_mem_cons.2 ⟨?_, by simp⟩)
      refine RW.guardT rfl rfl ((by rw [decide_eq_false (by omega)]; rfl)) ?_
      refine RW.call rfl ca12 rfl (fun w' hw' => brief_c w' (hg.ext hw'.ext) b hb (by omega)) ?_
      refine RW.st (fun _ => True) (fun _ h => .inr (by first | trivial | exact h | exact h.ch | exact (h.rem Rem.head).ch | exact ((h.rem Rem.head).rem Rem.head).ch | exact (((h.rem Rem.head).rem Rem.head).rem Rem.head).ch)) (fun _ h => trivial) ?_
      refine QuP.nil ?_
      refine UW.step [_] rfl (List.forall_mem_cons.2 ⟨?_, by simp⟩)
      refine RW.guardT rfl rfl ((by rw [decide_eq_false (by omega)]; rfl)) ?_
      refine RW.call rfl ca13 rfl (fun w' hw' => refBrief_c w' b hb (by omega)) ?_
      refine RW.st (fun _ => True) (fun _ h => .inr ⟨.inr (by first | trivial | exact h | exact h.ch | exact (h.rem Rem.head).ch | exact ((h.rem Rem.head).rem Rem.head).ch | exact (((h.rem Rem.head).rem Rem.head).rem Rem.head).ch), trivial⟩) (fun _ h => trivial) ?_
      refine QuP.cons rfl (fun wq hq => RW.guardT rfl rfl ((by rw [decide_eq_false (by omega)]; rfl)) (RW.eqlS rfl rfl rfl RW.jn)) ?_
      refine QuP.cons rfl (fun wq hq => (RW.pickB rfl rfl (by rw [decide_eq_false (by omega)]; rfl) rfl RW.jn)) ?_
      refine QuP.cons rfl (fun wq hq => (RW.assign rfl rfl RW.jn)) ?_
      refine QuP.nil ?_
      refine UW.nil (EX.seq (CW.ret (EX.seqR ?_)))
      refine EX.fin1 Tryd.results3 rfl (fun wz hw => ?_)
      -- mq: done
      exact ⟨by simp, hw.ext⟩
    · skip
      have h1p := of_decide_eq_false h1
      refine RW.guardT rfl rfl h1 ?_
      refine RW.move rfl rfl ?_
      refine RW.guardT rfl rfl h1 ?_
      refine RW.gtr rfl rfl rfl ?_
      refine RW.pickC rfl rfl h1 rfl ?_
      refine RW.nil (EX.seq ?_)
      -- mq: cond
      first | refine CW.condD rfl (fun h2 => ?_) (fun h2 => ?_) | refine CW.cond rfl (fun h2 => ?_) (fun h2 => ?_)
      · skip
        refine CW.seq ?_
        -- mq: region
        refine CW.drawU [0, 1, 2, 3, 4, 5, 6, 7, 9] 2 [[(8, false, []), (10, false, [11, 12, 13])]] (Ch [blk g2 b.cells 26]) mixed (by kernel_rfl) (fun _ hw => hw.drew) (fun _ h => (by first | trivial | exact h | exact h.ch | exact (h.rem Rem.head).ch | exact ((h.rem Rem.head).rem Rem.head).ch | exact (((h.rem Rem.head).rem Rem.head).rem Rem.head).ch)) ?_
        refine QuP.cons rfl (fun wq hq => (RW.move rfl rfl RW.jn)) ?_
        refine QuP.cons rfl (fun wq hq => (RW.eqlS rfl rfl rfl RW.jn)) ?_
        refine QuP.cons rfl (fun wq hq => (RW.move rfl rfl RW.jn)) ?_
        refine QuP.cons rfl (fun wq hq => RW.guardT rfl rfl ((by rw [phaseW, if_neg (by omega), if_neg (by omega), if_neg (by omega), if_neg (by omega), if_neg (by omega)]; rfl)) (RW.move rfl rfl RW.jn)) ?_
        refine QuP.cons rfl (fun wq hq => RW.guardT rfl rfl ((by rw [phaseW, if_neg (by omega), if_neg (by omega), if_neg (by omega), if_neg (by omega), if_neg (by omega)]; rfl)) (RW.not_ rfl rfl RW.jn)) ?_
        refine QuP.cons rfl (fun wq hq => (RW.pickB rfl rfl (by rw [phaseW, if_neg (by omega), if_neg (by omega), if_neg (by omega), if_neg (by omega), if_neg (by omega)]; rfl) rfl RW.jn)) ?_
        refine QuP.cons rfl (fun wq hq => (RW.move rfl rfl RW.jn)) ?_
        refine QuP.cons rfl (fun wq hq => RW.guardT rfl rfl ((by rw [decide_eq_false (by omega)]; rfl)) (RW.loadA ag26 rfl rfl rfl (fun w1 e1 j u hj => by subst e1; exact hq.blk_at (sz := 17) (by first | exact Has.head | exact Has.tail Has.head | exact Has.tail (Has.tail Has.head) | exact Has.tail (Has.tail (Has.tail Has.head)) | exact Has.tail (Has.tail (Has.tail (Has.tail Has.head))) | exact Has.tail (Has.tail (Has.tail (Has.tail (Has.tail Has.head)))) | exact Has.tail (Has.tail (Has.tail (Has.tail (Has.tail (Has.tail Has.head)))))) rfl j u hj) RW.jn)) ?_
        refine QuP.cons rfl (fun wq hq => RW.guardT rfl rfl ((by rw [decide_eq_false (by omega)]; rfl)) (RW.loadA ag26 rfl rfl rfl (fun w1 e1 j u hj => by subst e1; exact hq.blk_at (sz := 17) (by first | exact Has.head | exact Has.tail Has.head | exact Has.tail (Has.tail Has.head) | exact Has.tail (Has.tail (Has.tail Has.head)) | exact Has.tail (Has.tail (Has.tail (Has.tail Has.head))) | exact Has.tail (Has.tail (Has.tail (Has.tail (Has.tail Has.head)))) | exact Has.tail (Has.tail (Has.tail (Has.tail (Has.tail (Has.tail Has.head)))))) rfl j u hj) RW.jn)) ?_
        refine QuP.nil ?_
        refine UW.step [_] rfl (List.forall_mem_cons.2 ⟨?_, by simp⟩)
        refine RW.guardT rfl rfl ((by rw [decide_eq_false (by omega)]; rfl)) ?_
        refine RW.call rfl ca12 rfl (fun w' hw' => brief_c w' (hg.ext hw'.ext) b hb (by omega)) ?_
        refine RW.st (fun _ => True) (fun _ h => .inr (by first | trivial | exact h | exact h.ch | exact (h.rem Rem.head).ch | exact ((h.rem Rem.head).rem Rem.head).ch | exact (((h.rem Rem.head).rem Rem.head).rem Rem.head).ch)) (fun _ h => trivial) ?_
        refine QuP.nil ?_
        refine UW.step [_] rfl (List.forall_mem_cons.2 ⟨?_, by simp⟩)
        refine RW.guardT rfl rfl ((by rw [decide_eq_false (by omega)]; rfl)) ?_
        refine RW.call rfl ca13 rfl (fun w' hw' => refBrief_c w' b hb (by omega)) ?_
        refine RW.st (fun _ => True) (fun _ h => .inr ⟨.inr (by first | trivial | exact h | exact h.ch | exact (h.rem Rem.head).ch | exact ((h.rem Rem.head).rem Rem.head).ch | exact (((h.rem Rem.head).rem Rem.head).rem Rem.head).ch), trivial⟩) (fun _ h => trivial) ?_
        refine QuP.cons rfl (fun wq hq => RW.guardT rfl rfl ((by rw [decide_eq_false (by omega)]; rfl)) (RW.eqlS rfl rfl rfl RW.jn)) ?_
        refine QuP.cons rfl (fun wq hq => (RW.pickB rfl rfl (by rw [decide_eq_false (by omega)]; rfl) rfl RW.jn)) ?_
        refine QuP.cons rfl (fun wq hq => (RW.assign rfl rfl RW.jn)) ?_
        refine QuP.nil ?_
        refine UW.nil (EX.seq (CW.ret (EX.seqR ?_)))
        refine EX.fin1 Tryd.results3 rfl (fun wz hw => ?_)
        -- mq: done
        exact ⟨by simp, hw.ext⟩
      · skip
        obtain ⟨q, rfl⟩ : ∃ q : Nat, n = q := ⟨n.toNat, by omega⟩
        have hat := phasesL_at (n := q) (by omega)
        refine CW.skip (EX.seq (CW.seq ?_))
        -- mq: region
        refine CW.drawU [0, 1, 2, 4] 4 [[(3, false, [5]), (6, false, [7, 8, 9, 10, 12]), (11, false, []), (13, false, [14, 15, 16])]] (Ch [blk g2 b.cells 26]) mixed (by kernel_rfl) (fun _ hw => hw.drew) (fun _ h => (by first | trivial | exact h | exact h.ch | exact (h.rem Rem.head).ch | exact ((h.rem Rem.head).rem Rem.head).ch | exact (((h.rem Rem.head).rem Rem.head).rem Rem.head).ch)) ?_
        refine QuP.cons rfl (fun wq hq => (RW.move rfl rfl RW.jn)) ?_
        refine QuP.cons rfl (fun wq hq => (RW.move rfl rfl RW.jn)) ?_
        refine QuP.cons rfl (fun wq hq => RW.guardT rfl rfl ((decide_eq_true (by omega))) (RW.move rfl rfl RW.jn)) ?_
        refine QuP.cons rfl (fun wq hq => RW.guardT rfl rfl ((decide_eq_true (by omega))) (RW.move rfl rfl RW.jn)) ?_
        refine QuP.nil ?_
        refine UW.step [_] rfl (List.forall_mem_cons.2 ⟨?_, by simp⟩)
        refine RW.guardT rfl rfl ((decide_eq_true (by omega))) ?_
        -- mq: op 3: ('Op.call', ('Call.mk', ('Callee.value', ('Operand.func', '14')), ('arr',), ('arr',))) -> slot 42 ("law.go:103")
        refine RW.callK rfl ca14 rfl (fun w' _ => phases_c w') (fun w0 w1 A9 n9 c9 hw0 he01 hw1 hlt9 hrd9 => ?_)
        have hn9 : n9 = 5 := hrd9.len.symm
        have hx1 : Ext [] w w1 := hw0.ext.trans0 he01
        have hcv := hw0.cov
        obtain ⟨ad, hA, had, hcell⟩ := hrd9.at_ hat
        refine RW.st (fun _ => True) (fun _ h => .inr (by first | trivial | exact h | exact h.ch | exact (h.rem Rem.head).ch | exact ((h.rem Rem.head).rem Rem.head).ch | exact (((h.rem Rem.head).rem Rem.head).rem Rem.head).ch)) (fun _ h => trivial) ?_
        refine QuP.cons rfl (fun wq hq => RW.guardT rfl rfl ((decide_eq_true (by omega))) (RW.ixAddr (q := q) sl33 rfl rfl rfl (by first | rfl | assumption) (by omega) (by omega) RW.jn)) ?_
        refine QuP.nil ?_
        refine UW.step [_] rfl (List.forall_mem_cons.2 ⟨?_, by simp⟩)
        refine RW.guardT rfl rfl ((decide_eq_true (by omega))) ?_
        -- mq: op 6: ('Op.load', '9', ('Operand.tmp', '44')) -> slot 45 ("law.go:103")
        refine RW.load1 sc9 rfl rfl (fun w' hw' => hw'.base_cell (hcell 0 _ rfl) (fun hk2 => by have := hlt9 _ hk2; have : w0.heap.size ≤ ad.block := had; simp only [block_add] at *; omega)) ?_
        refine RW.st (Ch [blk g2 b.cells 26]) (fun _ h => .inr ⟨.inr (by first | trivial | exact h | exact h.ch | exact (h.rem Rem.head).ch | exact ((h.rem Rem.head).rem Rem.head).ch | exact (((h.rem Rem.head).rem Rem.head).rem Rem.head).ch), trivial⟩) (fun _ h => (by first | trivial | exact h | exact h.ch | exact (h.rem Rem.head).ch | exact ((h.rem Rem.head).rem Rem.head).ch | exact (((h.rem Rem.head).rem Rem.head).rem Rem.head).ch)) ?_
        refine QuP.cons rfl (fun wq hq => RW.guardT rfl rfl ((decide_eq_true (by omega))) (RW.eqlS rfl rfl rfl RW.jn)) ?_
        refine QuP.cons rfl (fun wq hq => (RW.pickB rfl rfl (decide_eq_true (by omega)) rfl RW.jn)) ?_
        refine QuP.cons rfl (fun wq hq => (RW.move rfl rfl RW.jn)) ?_
        refine QuP.cons rfl (fun wq hq => RW.guardT rfl rfl ((decide_eq_true rfl)) (RW.loadA ag26 rfl rfl rfl (fun w1 e1 j u hj => by subst e1; exact hq.blk_at (sz := 17) (by first | exact Has.head | exact Has.tail Has.head | exact Has.tail (Has.tail Has.head) | exact Has.tail (Has.tail (Has.tail Has.head)) | exact Has.tail (Has.tail (Has.tail (Has.tail Has.head))) | exact Has.tail (Has.tail (Has.tail (Has.tail (Has.tail Has.head)))) | exact Has.tail (Has.tail (Has.tail (Has.tail (Has.tail (Has.tail Has.head)))))) rfl j u hj) RW.jn)) ?_
        refine QuP.cons rfl (fun wq hq => RW.guardT rfl rfl ((decide_eq_true rfl)) (RW.loadA ag26 rfl rfl rfl (fun w1 e1 j u hj => by subst e1; exact hq.blk_at (sz := 17) (by first | exact Has.head | exact Has.tail Has.head | exact Has.tail (Has.tail Has.head) | exact Has.tail (Has.tail (Has.tail Has.head)) | exact Has.tail (Has.tail (Has.tail (Has.tail Has.head))) | exact Has.tail (Has.tail (Has.tail (Has.tail (Has.tail Has.head)))) | exact Has.tail (Has.tail (Has.tail (Has.tail (Has.tail (Has.tail Has.head)))))) rfl j u hj) RW.jn)) ?_
        refine QuP.nil ?_
        refine UW.step [_] rfl (List.forall_mem_cons.2 ⟨?_, by simp⟩)
        refine RW.guardT rfl rfl ((decide_eq_true rfl)) ?_
        refine RW.call rfl ca12 rfl (fun w' hw' => brief_c w' (hg.ext (hw'.unbase hx1 hcv).ext) b hb (by omega)) ?_
        refine RW.st (fun _ => True) (fun _ h => .inr ⟨.inr ⟨.inr (by first | trivial | exact h | exact h.ch | exact (h.rem Rem.head).ch | exact ((h.rem Rem.head).rem Rem.head).ch | exact (((h.rem Rem.head).rem Rem.head).rem Rem.head).ch), trivial⟩, (by first | trivial | exact h | exact h.ch | exact (h.rem Rem.head).ch | exact ((h.rem Rem.head).rem Rem.head).ch | exact (((h.rem Rem.head).rem Rem.head).rem Rem.head).ch)⟩) (fun _ h => trivial) ?_
        refine QuP.nil ?_
        refine UW.step [_] rfl (List.forall_mem_cons.2 ⟨?_, by simp⟩)
        refine RW.guardT rfl rfl ((decide_eq_true rfl)) ?_
        refine RW.call rfl ca13 rfl (fun w' hw' => refBrief_c w' b hb (by omega)) ?_
        refine RW.st (fun _ => True) (fun _ h => .inr ⟨.inr ⟨.inr ⟨.inr (by first | trivial | exact h | exact h.ch | exact (h.rem Rem.head).ch | exact ((h.rem Rem.head).rem Rem.head).ch | exact (((h.rem Rem.head).rem Rem.head).rem Rem.head).ch), trivial⟩, (by first | trivial | exact h | exact h.ch | exact (h.rem Rem.head).ch | exact ((h.rem Rem.head).rem Rem.head).ch | exact (((h.rem Rem.head).rem Rem.head).rem Rem.head).ch)⟩, trivial⟩) (fun _ h => trivial) ?_
        refine QuP.cons rfl (fun wq hq => RW.guardT rfl rfl ((decide_eq_true rfl)) (RW.eqlS rfl rfl rfl RW.jn)) ?_
        refine QuP.cons rfl (fun wq hq => (RW.pickB rfl rfl (decide_eq_true rfl) rfl RW.jn)) ?_
        refine QuP.cons rfl (fun wq hq => (RW.assign rfl rfl RW.jn)) ?_
        refine QuP.nil ?_
        refine UW.nil (EX.seq (CW.ret ?_))
        refine EX.fin1 Tryd.results3 rfl (fun wz hw => ?_)
        -- mq: done
        exact ⟨by simp, (hw.unbase hx1 hcv).ext⟩
theorem BlkV.ext' {a b : BlkV} (h : (a.id = b.id ∧ a.ph = b.ph ∧ a.r1 = b.r1 ∧ a.c1 = b.c1 ∧ a.r2 = b.r2 ∧ a.c2 = b.c2 ∧ a.r3 = b.r3 ∧ a.c3 = b.c3 ∧ a.r4 = b.r4) ∧ (a.c4 = b.c4 ∧ a.r5 = b.r5 ∧ a.c5 = b.c5 ∧ a.code = b.code ∧ a.has = b.has ∧ a.cut = b.cut ∧ a.dir = b.dir ∧ a.line = b.line)) : a = b := by
  cases a; cases b; simp_all
instance : DecidableEq BlkV := fun a b =>
  if h : (a.id = b.id ∧ a.ph = b.ph ∧ a.r1 = b.r1 ∧ a.c1 = b.c1 ∧ a.r2 = b.r2 ∧ a.c2 = b.c2 ∧ a.r3 = b.r3 ∧ a.c3 = b.c3 ∧ a.r4 = b.r4) ∧ (a.c4 = b.c4 ∧ a.r5 = b.r5 ∧ a.c5 = b.c5 ∧ a.code = b.code ∧ a.has = b.has ∧ a.cut = b.cut ∧ a.dir = b.dir ∧ a.line = b.line) then isTrue (BlkV.ext' h)
  else isFalse fun e => h (by subst e; exact ⟨⟨rfl, rfl, rfl, rfl, rfl, rfl, rfl, rfl, rfl⟩, rfl, rfl, rfl, rfl, rfl, rfl, rfl, rfl⟩)
theorem heqB (a b : BlkV) : eqv a.cells b.cells = decide (a = b) := by
  rw [Bool.eq_iff_iff]
  simp only [eqv, veq, Bool.and_eq_true, decide_eq_true_eq, Bool.and_true, beq_iff_eq, bs]
  constructor
  · rintro ⟨h1, h2, h3, h4, h5, h6, h7, h8, h9, h10, h11, h12, h13, h14, h15, h16, h17⟩
    exact BlkV.ext' ⟨⟨by omega, h2, h3, h4, h5, h6, h7, h8, h9⟩, h10, h11, h12, h13, h14, h15, by simpa using h16, by simpa using h17⟩
  · rintro rfl; simp
theorem greatD_two {a b : BlkV} (h : greatD [a, b] = false) : (a.dir.length ≤ 400 ∧ a.line.length ≤ 400) ∧ b.dir.length ≤ 400 ∧ b.line.length ≤ 400 := by
  simp [greatD, bigB] at h; omega
theorem apart_c (w : World) (hg : Gl w) (a b : BlkV) (ha : a.Wf) (hb : b.Wf) :
    Calls Tryd.prog 4 [.agg a.cells.toArray, .agg b.cells.toArray].toArray w (fun e w' => e = .returned (.bool true) ∧ Ext [] w w') := by
  refine calls (n := 41) Tryd.func4 rfl Tryd.ntmps4 rfl ?_
  refine CW.sub (H' := SH w [] []) ?_ (Sub.refl _) (fun x hx => SH.start' _ _ hx)
  refine CW.seq (CW.region ?_)
  refine RW.boxA rfl rfl (fun g2 hg2 hf2 => ?_)
  refine RW.boxA rfl rfl (fun g3 hg3 hf3 => ?_)
  refine RW.assign rfl rfl ?_
  refine RW.nil (EX.seq (CW.seq (CW.seq ?_)))
  -- mq: region
  refine CW.region ?_
  refine RW.loadBA ag26 rfl rfl (by first | exact Has.head | exact Has.tail Has.head | exact Has.tail (Has.tail Has.head) | exact Has.tail (Has.tail (Has.tail Has.head)) | exact Has.tail (Has.tail (Has.tail (Has.tail Has.head))) | exact Has.tail (Has.tail (Has.tail (Has.tail (Has.tail Has.head)))) | exact Has.tail (Has.tail (Has.tail (Has.tail (Has.tail (Has.tail Has.head)))))) rfl rfl ?_
  refine RW.loadBA ag26 rfl rfl (by first | exact Has.head | exact Has.tail Has.head | exact Has.tail (Has.tail Has.head) | exact Has.tail (Has.tail (Has.tail Has.head)) | exact Has.tail (Has.tail (Has.tail (Has.tail Has.head))) | exact Has.tail (Has.tail (Has.tail (Has.tail (Has.tail Has.head)))) | exact Has.tail (Has.tail (Has.tail (Has.tail (Has.tail (Has.tail Has.head)))))) rfl rfl ?_
  refine RW.buildSlc (out := EBlk.all [a, b]) sl28 rfl rfl rfl (by kernel_rfl) (fun g11 hg11 hf11 => ?_)
  refine RW.call rfl ca9 rfl (fun w' hw' => great_c w' _ _ _ _ [a, b] (Rd.of_blk (E := EBlk) hw' Has.head rfl (by decide))) ?_
  refine RW.move rfl rfl ?_
  -- mq: guard slot 13
  refine RW.casesB 13 rfl (fun hG => ?_) (fun hG => ?_)
  · skip
    refine RW.guardF rfl rfl rfl hG ?_
    refine RW.guardF rfl rfl rfl hG ?_
    refine RW.pickB rfl rfl hG rfl ?_
    refine RW.nil (EX.seq ?_)
    -- mq: cond
    refine CW.condT rfl (rfl) ?_
    refine CW.seq (CW.region ?_)
    refine RW.call rfl ca10 rfl (fun w' hw' => awake_c w' (hg.ext hw'.ext)) ?_
    refine RW.assign rfl rfl ?_
    refine RW.nil (EX.seq (CW.ret (EX.seqR ?_)))
    refine EX.fin1 Tryd.results4 rfl (fun wz hw => ?_)
    -- mq: done
    exact ⟨rfl, hw.ext⟩
  · skip
    refine RW.guardT rfl rfl hG ?_
    refine RW.call rfl ca10 rfl (fun w' hw' => awake_c w' (hg.ext hw'.ext)) ?_
    refine RW.guardT rfl rfl hG ?_
    refine RW.not_ rfl rfl ?_
    refine RW.pickC rfl rfl hG rfl ?_
    refine RW.nil (EX.seq ?_)
    -- mq: cond
    refine CW.condF rfl (rfl) ?_
    refine CW.skip (EX.seq (CW.seq ?_))
    -- mq: region
    have hla := fun w' (hw' : Gl w') => line_c w' hw' a ha
    have hlb := fun w' (hw' : Gl w') => line_c w' hw' b hb
    by_cases hta : toldB a = true
    · by_cases htb : toldB b = true
      · skip
        rw [lineR, if_pos hta] at hla
        rw [lineR, if_pos htb] at hlb
        refine CW.region ?_
        refine RW.loadBA ag26 rfl rfl (by first | exact Has.head | exact Has.tail Has.head | exact Has.tail (Has.tail Has.head) | exact Has.tail (Has.tail (Has.tail Has.head)) | exact Has.tail (Has.tail (Has.tail (Has.tail Has.head))) | exact Has.tail (Has.tail (Has.tail (Has.tail (Has.tail Has.head)))) | exact Has.tail (Has.tail (Has.tail (Has.tail (Has.tail (Has.tail Has.head)))))) rfl rfl ?_
        refine RW.call rfl ca15 rfl (fun w' hw' => hla w' (hg.ext hw'.ext)) ?_
        refine RW.move rfl rfl ?_
        refine RW.extract rfl rfl rfl ?_
        refine RW.extract rfl rfl rfl ?_
        refine RW.assign rfl rfl ?_
        refine RW.assign rfl rfl ?_
        refine RW.nil (EX.seq (CW.seq ?_))
        -- mq: region
        refine CW.region ?_
        refine RW.loadBA ag26 rfl rfl (by first | exact Has.head | exact Has.tail Has.head | exact Has.tail (Has.tail Has.head) | exact Has.tail (Has.tail (Has.tail Has.head)) | exact Has.tail (Has.tail (Has.tail (Has.tail Has.head))) | exact Has.tail (Has.tail (Has.tail (Has.tail (Has.tail Has.head)))) | exact Has.tail (Has.tail (Has.tail (Has.tail (Has.tail (Has.tail Has.head)))))) rfl rfl ?_
        refine RW.call rfl ca15 rfl (fun w' hw' => hlb w' (hg.ext hw'.ext)) ?_
        refine RW.move rfl rfl ?_
        refine RW.extract rfl rfl rfl ?_
        refine RW.extract rfl rfl rfl ?_
        refine RW.assign rfl rfl ?_
        refine RW.assign rfl rfl ?_
        refine RW.nil (EX.seq (CW.seq (CW.seq (CW.region ?_))))
        refine RW.move rfl rfl ?_
        refine RW.neqI rfl rfl rfl ?_
        refine RW.move rfl rfl ?_
        refine RW.guardT rfl rfl rfl ?_
        refine RW.move rfl rfl ?_
        refine RW.guardT rfl rfl rfl ?_
        refine RW.neqI rfl rfl rfl ?_
        refine RW.pickC rfl rfl rfl rfl ?_
        refine RW.nil (EX.seq ?_)
        -- mq: cond
        refine CW.condF rfl (rfl) ?_
        refine CW.skip (EX.seq (CW.seq (CW.region ?_)))
        refine RW.move rfl rfl ?_
        refine RW.move rfl rfl ?_
        refine RW.eqlS rfl rfl rfl ?_
        refine RW.loadBA ag26 rfl rfl (by first | exact Has.head | exact Has.tail Has.head | exact Has.tail (Has.tail Has.head) | exact Has.tail (Has.tail (Has.tail Has.head)) | exact Has.tail (Has.tail (Has.tail (Has.tail Has.head))) | exact Has.tail (Has.tail (Has.tail (Has.tail (Has.tail Has.head)))) | exact Has.tail (Has.tail (Has.tail (Has.tail (Has.tail (Has.tail Has.head)))))) rfl rfl ?_
        refine RW.loadBA ag26 rfl rfl (by first | exact Has.head | exact Has.tail Has.head | exact Has.tail (Has.tail Has.head) | exact Has.tail (Has.tail (Has.tail Has.head)) | exact Has.tail (Has.tail (Has.tail (Has.tail Has.head))) | exact Has.tail (Has.tail (Has.tail (Has.tail (Has.tail Has.head)))) | exact Has.tail (Has.tail (Has.tail (Has.tail (Has.tail (Has.tail Has.head)))))) rfl rfl ?_
        refine RW.eqlSt eq26 rfl rfl rfl (by kernel_rfl) (heqB a b) ?_
        refine RW.eqlB Tryd.underlying4 rfl rfl rfl ?_
        refine RW.assign rfl rfl ?_
        refine RW.nil (EX.seq (CW.ret ?_))
        refine EX.fin1 Tryd.results4 rfl (fun wz hw => ?_)
        -- mq: done
        refine ⟨?_, hw.ext⟩
        by_cases hab : a = b
        · subst hab; simp
        · rw [decide_eq_false hab, decide_eq_false (fun e => hab (lineF_inj hta htb e))]; rfl
      · skip
        rw [lineR, if_pos hta] at hla
        rw [lineR, if_neg htb] at hlb
        refine CW.region ?_
        refine RW.loadBA ag26 rfl rfl (by first | exact Has.head | exact Has.tail Has.head | exact Has.tail (Has.tail Has.head) | exact Has.tail (Has.tail (Has.tail Has.head)) | exact Has.tail (Has.tail (Has.tail (Has.tail Has.head))) | exact Has.tail (Has.tail (Has.tail (Has.tail (Has.tail Has.head)))) | exact Has.tail (Has.tail (Has.tail (Has.tail (Has.tail (Has.tail Has.head)))))) rfl rfl ?_
        refine RW.call rfl ca15 rfl (fun w' hw' => hla w' (hg.ext hw'.ext)) ?_
        refine RW.move rfl rfl ?_
        refine RW.extract rfl rfl rfl ?_
        refine RW.extract rfl rfl rfl ?_
        refine RW.assign rfl rfl ?_
        refine RW.assign rfl rfl ?_
        refine RW.nil (EX.seq (CW.seq ?_))
        -- mq: region
        refine CW.region ?_
        refine RW.loadBA ag26 rfl rfl (by first | exact Has.head | exact Has.tail Has.head | exact Has.tail (Has.tail Has.head) | exact Has.tail (Has.tail (Has.tail Has.head)) | exact Has.tail (Has.tail (Has.tail (Has.tail Has.head))) | exact Has.tail (Has.tail (Has.tail (Has.tail (Has.tail Has.head)))) | exact Has.tail (Has.tail (Has.tail (Has.tail (Has.tail (Has.tail Has.head)))))) rfl rfl ?_
        refine RW.call rfl ca15 rfl (fun w' hw' => hlb w' (hg.ext hw'.ext)) ?_
        refine RW.move rfl rfl ?_
        refine RW.extract rfl rfl rfl ?_
        refine RW.extract rfl rfl rfl ?_
        refine RW.assign rfl rfl ?_
        refine RW.assign rfl rfl ?_
        refine RW.nil (EX.seq (CW.seq (CW.seq (CW.region ?_))))
        refine RW.move rfl rfl ?_
        refine RW.neqI rfl rfl rfl ?_
        refine RW.move rfl rfl ?_
        refine RW.guardT rfl rfl rfl ?_
        refine RW.move rfl rfl ?_
        refine RW.guardT rfl rfl rfl ?_
        refine RW.neqI rfl rfl rfl ?_
        refine RW.pickC rfl rfl rfl rfl ?_
        refine RW.nil (EX.seq ?_)
        -- mq: cond
        refine CW.condT rfl (rfl) ?_
        refine CW.seq (CW.region ?_)
        refine RW.assign rfl rfl ?_
        refine RW.nil (EX.seq (CW.ret (EX.seqR ?_)))
        refine EX.fin1 Tryd.results4 rfl (fun wz hw => ?_)
        -- mq: done
        exact ⟨rfl, hw.ext⟩
    · skip
      rw [lineR, if_neg hta] at hla
      refine CW.region ?_
      refine RW.loadBA ag26 rfl rfl (by first | exact Has.head | exact Has.tail Has.head | exact Has.tail (Has.tail Has.head) | exact Has.tail (Has.tail (Has.tail Has.head)) | exact Has.tail (Has.tail (Has.tail (Has.tail Has.head))) | exact Has.tail (Has.tail (Has.tail (Has.tail (Has.tail Has.head)))) | exact Has.tail (Has.tail (Has.tail (Has.tail (Has.tail (Has.tail Has.head)))))) rfl rfl ?_
      refine RW.call rfl ca15 rfl (fun w' hw' => hla w' (hg.ext hw'.ext)) ?_
      refine RW.move rfl rfl ?_
      refine RW.extract rfl rfl rfl ?_
      refine RW.extract rfl rfl rfl ?_
      refine RW.assign rfl rfl ?_
      refine RW.assign rfl rfl ?_
      refine RW.nil (EX.seq (CW.seq ?_))
      -- mq: region
      refine CW.region ?_
      refine RW.loadBA ag26 rfl rfl (by first | exact Has.head | exact Has.tail Has.head | exact Has.tail (Has.tail Has.head) | exact Has.tail (Has.tail (Has.tail Has.head)) | exact Has.tail (Has.tail (Has.tail (Has.tail Has.head))) | exact Has.tail (Has.tail (Has.tail (Has.tail (Has.tail Has.head)))) | exact Has.tail (Has.tail (Has.tail (Has.tail (Has.tail (Has.tail Has.head)))))) rfl rfl ?_
      refine RW.call rfl ca15 rfl (fun w' hw' => hlb w' (hg.ext hw'.ext)) ?_
      -- mq: at
      cases htb : toldB b with
      | true =>
        rw [lineR, if_pos htb]
        refine RW.move rfl rfl ?_
        refine RW.extract rfl rfl rfl ?_
        refine RW.extract rfl rfl rfl ?_
        refine RW.assign rfl rfl ?_
        refine RW.assign rfl rfl ?_
        refine RW.nil (EX.seq (CW.seq (CW.seq (CW.region ?_))))
        refine RW.move rfl rfl ?_
        refine RW.neqI rfl rfl rfl ?_
        refine RW.move rfl rfl ?_
        refine RW.guardF rfl rfl rfl rfl ?_
        refine RW.guardF rfl rfl rfl rfl ?_
        refine RW.pickB rfl rfl rfl rfl ?_
        refine RW.nil (EX.seq ?_)
        -- mq: cond
        refine CW.condT rfl (rfl) ?_
        refine CW.seq (CW.region ?_)
        refine RW.assign rfl rfl ?_
        refine RW.nil (EX.seq (CW.ret (EX.seqR ?_)))
        refine EX.fin1 Tryd.results4 rfl (fun wz hw => ?_)
        -- mq: done
        exact ⟨rfl, hw.ext⟩
      | false =>
        rw [lineR, if_neg (by simp [htb])]
        refine RW.move rfl rfl ?_
        refine RW.extract rfl rfl rfl ?_
        refine RW.extract rfl rfl rfl ?_
        refine RW.assign rfl rfl ?_
        refine RW.assign rfl rfl ?_
        refine RW.nil (EX.seq (CW.seq (CW.seq (CW.region ?_))))
        refine RW.move rfl rfl ?_
        refine RW.neqI rfl rfl rfl ?_
        refine RW.move rfl rfl ?_
        refine RW.guardF rfl rfl rfl rfl ?_
        refine RW.guardF rfl rfl rfl rfl ?_
        refine RW.pickB rfl rfl rfl rfl ?_
        refine RW.nil (EX.seq ?_)
        -- mq: cond
        refine CW.condT rfl (rfl) ?_
        refine CW.seq (CW.region ?_)
        refine RW.assign rfl rfl ?_
        refine RW.nil (EX.seq (CW.ret (EX.seqR ?_)))
        refine EX.fin1 Tryd.results4 rfl (fun wz hw => ?_)
        -- mq: done
        exact ⟨rfl, hw.ext⟩
end Go.Proofs.YtnkdabjahmjdoaaDoor.Mq
