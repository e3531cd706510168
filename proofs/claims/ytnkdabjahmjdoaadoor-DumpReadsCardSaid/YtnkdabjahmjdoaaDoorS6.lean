/- dump: the walk of the reference's Parse -/
import Derived.Test.YtnkdabjahmjdoaaDoorS5
namespace Go.Proofs.YtnkdabjahmjdoaaDoor.Mq
open Go Go.RowKit Go.Proofs

def WC (ad : Addr) (L : List (List UInt8)) (w : World) : Prop := ∀ k x, L[k]? = some x → w.cell? ((ad.add (k * EStr.sz)).add 0) = some (.string (bs x))
set_option maxHeartbeats 2000000 in
theorem rparse31_c (w : World) (s : List UInt8) (hs : s.length ≤ 1000000) :
    Calls Tryd.prog 19 [.string (bs s)].toArray w (fun e w' => e = .returned (dparV (parseD s)) ∧ Ext [] w w') := by
  have hsm := full_mem 32 s
  have hpos : 0 < (fullP 32 s).length := List.length_pos_iff.2 (fullP_ne 32 s)
  have hfh : (fullP 32 s)[0]? = some ((fullP 32 s).headD []) := by
    cases h : fullP 32 s with
    | nil => exact absurd h (fullP_ne 32 s)
    | cons a r => rfl
  refine calls (n := 141) Tryd.func19 rfl Tryd.ntmps19 rfl ?_
  refine CW.sub (H' := SH w [] []) ?_ (Sub.refl _) (fun x hx => SH.start' _ _ hx)
  refine CW.seq (CW.region ?_)
  refine RW.allocA ag26 rfl (fun g2 hg2 hf2 => ?_)
  refine RW.assign rfl rfl ?_
  refine RW.nil (EX.seq (CW.seq ?_))
  -- mq: region
  refine CW.region ?_
  refine RW.move rfl rfl ?_
  -- mq: at
  refine RW.callK rfl ca42 rfl (fun w' _ => rsplit_c w' s hs) (fun w2 w3 A4 n4 c4 hw2 he23 hw3 hlt3 hrd4 => ?_)
  have hn4 := hrd4.len
  have hcap4 := hrd4.cap
  have hx13 : Ext [] w w3 := hw2.ext.trans0 he23
  have hcv := hw2.cov
  obtain ⟨ad, hA4, hAd, hcl⟩ := hrd4.at_ hfh
  have hnb : ad.block ∉ feet [blk g2 zeroB.cells 26] := fun hk2 => by have := hlt3 _ hk2; have : w2.heap.size ≤ ad.block := hAd; omega
  have hcw0 : ∀ k x, (fullP 32 s)[k]? = some x → ∀ cs w', SH w3 (feet [blk g2 zeroB.cells 26]) cs w' → w'.cell? ((ad.add (k * EStr.sz)).add 0) = some (.string (bs x)) := fun k x hk cs w' h => by
    obtain ⟨ad', hA', -, hcl'⟩ := hrd4.at_ hk
    have e : ad' = ad := Option.some.inj (hA'.symm.trans hA4)
    subst e
    exact h.base_cell (hcl' 0 _ rfl) (by rw [block_add, block_add]; exact hnb)
  refine RW.assign rfl rfl ?_
  refine RW.nil (EX.seq (CW.seq (CW.seq ?_)))
  -- mq: region
  refine CW.region ?_
  refine RW.move rfl rfl ?_
  refine RW.ixAddr (q := 0) sl33 rfl rfl rfl (by first | rfl | assumption) (by omega) (by omega) ?_
  refine RW.load1 sc9 rfl rfl (fun w' hw' => hcw0 0 _ hfh _ _ hw') ?_
  refine RW.neqS rfl rfl rfl ?_
  refine RW.nil (EX.seq ?_)
  -- mq: cond
  first | refine CW.condD rfl (fun hb => ?_) (fun hb => ?_) | refine CW.cond rfl (fun hb => ?_) (fun hb => ?_)
  · skip
    refine CW.seq (CW.region ?_)
    refine RW.buildS bu26 rfl rfl rfl ?_
    refine RW.storeA ag26 rfl rfl (by first | exact Upd.head | exact Upd.tail Upd.head | exact Upd.tail (Upd.tail Upd.head) | exact Upd.tail (Upd.tail (Upd.tail Upd.head)) | exact Upd.tail (Upd.tail (Upd.tail (Upd.tail Upd.head))) | exact Upd.tail (Upd.tail (Upd.tail (Upd.tail (Upd.tail Upd.head)))) | exact Upd.tail (Upd.tail (Upd.tail (Upd.tail (Upd.tail (Upd.tail Upd.head)))))) (by first | rfl | exact Enc.len _ _) (by repeat (first | exact Ones.nil | exact Enc.ones _ _ | refine Ones.cons rfl ?_)) (by first | exact Nat.le_of_ble_eq_true rfl | (simp only [Enc.len]; decide)) ?_
    refine RW.assign rfl rfl ?_
    refine RW.nil (EX.seq (CW.ret (EX.seqR ?_)))
    refine EX.fin2' Tryd.results19 (RV.cellA ag26 rfl (by first | exact Has.head | exact Has.tail Has.head | exact Has.tail (Has.tail Has.head) | exact Has.tail (Has.tail (Has.tail Has.head)) | exact Has.tail (Has.tail (Has.tail (Has.tail Has.head))) | exact Has.tail (Has.tail (Has.tail (Has.tail (Has.tail Has.head)))) | exact Has.tail (Has.tail (Has.tail (Has.tail (Has.tail (Has.tail Has.head)))))) rfl rfl) (RV.tmp rfl) (fun wz hw => ?_)
    -- mq: done
    exact ⟨by rw [parseD_no hb]; rfl, ((hw.rem Rem.head).unbase hx13 hcv).ext⟩
  · skip
    have hb' : (fullP 32 s).headD [] = blockW := Decidable.not_not.1 hb
    refine CW.skip (EX.seq (CW.seq (CW.seq (CW.region ?_))))
    refine RW.move rfl rfl ?_
    refine RW.lenSl Tryd.underlying33 rfl rfl ?_
    refine RW.neqI rfl rfl rfl ?_
    refine RW.nil (EX.seq ?_)
    -- mq: cond
    first | refine CW.condD rfl (fun hl => ?_) (fun hl => ?_) | refine CW.cond rfl (fun hl => ?_) (fun hl => ?_)
    · skip
      refine CW.seq (CW.region ?_)
      refine RW.buildS bu26 rfl rfl rfl ?_
      refine RW.storeA ag26 rfl rfl (by first | exact Upd.head | exact Upd.tail Upd.head | exact Upd.tail (Upd.tail Upd.head) | exact Upd.tail (Upd.tail (Upd.tail Upd.head)) | exact Upd.tail (Upd.tail (Upd.tail (Upd.tail Upd.head))) | exact Upd.tail (Upd.tail (Upd.tail (Upd.tail (Upd.tail Upd.head)))) | exact Upd.tail (Upd.tail (Upd.tail (Upd.tail (Upd.tail (Upd.tail Upd.head)))))) (by first | rfl | exact Enc.len _ _) (by repeat (first | exact Ones.nil | exact Enc.ones _ _ | refine Ones.cons rfl ?_)) (by first | exact Nat.le_of_ble_eq_true rfl | (simp only [Enc.len]; decide)) ?_
      refine RW.assign rfl rfl ?_
      refine RW.nil (EX.seq (CW.ret (EX.seqR ?_)))
      refine EX.fin2' Tryd.results19 (RV.cellA ag26 rfl (by first | exact Has.head | exact Has.tail Has.head | exact Has.tail (Has.tail Has.head) | exact Has.tail (Has.tail (Has.tail Has.head)) | exact Has.tail (Has.tail (Has.tail (Has.tail Has.head))) | exact Has.tail (Has.tail (Has.tail (Has.tail (Has.tail Has.head)))) | exact Has.tail (Has.tail (Has.tail (Has.tail (Has.tail (Has.tail Has.head)))))) rfl rfl) (RV.tmp rfl) (fun wz hw => ?_)
      -- mq: done
      exact ⟨by rw [parseD_len hb' (by omega)]; rfl, ((hw.rem Rem.head).unbase hx13 hcv).ext⟩
    · skip
      obtain ⟨x0, x1, x2, x3, x4, y1, y2, y3, y4, y5, y6, y7, y8, y9, y10, x15, x16, h17⟩ := len17 (L := fullP 32 s) (by omega)
      have hx0 : x0 = blockW := by rw [h17] at hb'; exact hb'
      subst hx0
      have hn17 : n4 = 17 := by omega
      have hle : ∀ x ∈ [blockW, x1, x2, x3, x4, y1, y2, y3, y4, y5, y6, y7, y8, y9, y10, x15, x16], x.length ≤ 1000000 := fun x hx => by rw [← h17] at hx; have := (hsm x hx).2; omega
      have hlaw := guess_law h17
      rw [h17] at hcw0
      have hcw := hcw0
      refine CW.skip (EX.seq (CW.seq ?_))
      -- mq: region
      refine CW.joinI (fun g5 : Nat => [(0, .string (bs s)), (2, .pointer (some ⟨g2, 0, none⟩)), (4, .slice A4 n4 c4), (5, .pointer (some ⟨g5, 0, none⟩))]) (fun g5 => SH w3 (feet [blk g2 zeroB.cells 26]) [blk g5 (BlkV.mk (numU x1) (-1) 0 0 0 0 0 0 0 0 0 0 0 (decide (x4 ≠ [45])) (decide (x3 = [99, 117, 116])) [] []).cells 26, blk g2 zeroB.cells 26]) (fun _ => True) ?_ ?_
      · skip
        refine CW.drawU [0, 1, 2, 4, 5, 6, 7, 8, 9, 10, 11] 3 [[(3, false, [12]), (13, false, []), (14, false, [])], [(13, false, []), (3, false, [12]), (14, false, [])]] (WC ad [blockW, x1, x2, x3, x4, y1, y2, y3, y4, y5, y6, y7, y8, y9, y10, x15, x16]) mixed (by kernel_rfl) (fun _ hw => hw.drew) (fun _ h => (by exact fun k x hk => hcw k x hk _ _ h)) ?_
        refine QuP.cons rfl (fun wq hq => (RW.move rfl rfl RW.jn)) ?_
        refine QuP.cons rfl (fun wq hq => (RW.ixAddr (q := 1) sl33 rfl rfl rfl (by first | rfl | assumption) (by omega) (by omega) RW.jn)) ?_
        refine QuP.cons rfl (fun wq hq => (RW.load1 sc9 rfl rfl (fun w1 e1 => by subst e1; exact (hq 1 x1 rfl)) RW.jn)) ?_
        refine QuP.cons rfl (fun wq hq => (RW.move rfl rfl RW.jn)) ?_
        refine QuP.cons rfl (fun wq hq => (RW.ixAddr (q := 3) sl33 rfl rfl rfl (by first | rfl | assumption) (by omega) (by omega) RW.jn)) ?_
        refine QuP.cons rfl (fun wq hq => (RW.load1 sc9 rfl rfl (fun w1 e1 => by subst e1; exact (hq 3 x3 rfl)) RW.jn)) ?_
        refine QuP.cons rfl (fun wq hq => (RW.eqlS rfl rfl rfl RW.jn)) ?_
        refine QuP.cons rfl (fun wq hq => (RW.move rfl rfl RW.jn)) ?_
        refine QuP.cons rfl (fun wq hq => (RW.ixAddr (q := 4) sl33 rfl rfl rfl (by first | rfl | assumption) (by omega) (by omega) RW.jn)) ?_
        refine QuP.cons rfl (fun wq hq => (RW.load1 sc9 rfl rfl (fun w1 e1 => by subst e1; exact (hq 4 x4 rfl)) RW.jn)) ?_
        refine QuP.cons rfl (fun wq hq => (RW.neqS rfl rfl rfl RW.jn)) ?_
        refine QuP.nil ?_
        -- mq: orders [3, 13]
        refine UW.step [_, _] rfl (List.forall_mem_cons.2 ⟨?_, List.forall_mem_cons.2 ⟨?_, by simp⟩⟩)
        · skip
          refine RW.call rfl ca43 rfl (fun w' _ => num31_c w' x1 (hle x1 (by simp))) ?_
          refine RW.st (fun _ => True) (fun _ h => .inr (by exact fun k x hk => hcw k x hk _ _ h)) (fun _ h => trivial) ?_
          refine QuP.cons rfl (fun wq hq => (RW.buildS bu26 rfl rfl rfl RW.jn)) ?_
          refine QuP.nil ?_
          refine UW.step [_] rfl (List.forall_mem_cons.2 ⟨?_, by simp⟩)
          refine RW.allocA ag26 rfl (fun g5 hg5 hf5 => ?_)
          refine RW.st (fun _ => True) (fun _ h => .inr ⟨.inr (by exact fun k x hk => hcw k x hk _ _ h), trivial⟩) (fun _ h => trivial) ?_
          refine QuP.nil ?_
          refine UW.step [_] rfl (List.forall_mem_cons.2 ⟨?_, by simp⟩)
          refine RW.storeA ag26 rfl rfl (by first | exact Upd.head | exact Upd.tail Upd.head | exact Upd.tail (Upd.tail Upd.head) | exact Upd.tail (Upd.tail (Upd.tail Upd.head)) | exact Upd.tail (Upd.tail (Upd.tail (Upd.tail Upd.head))) | exact Upd.tail (Upd.tail (Upd.tail (Upd.tail (Upd.tail Upd.head)))) | exact Upd.tail (Upd.tail (Upd.tail (Upd.tail (Upd.tail (Upd.tail Upd.head)))))) (by first | rfl | exact Enc.len _ _) (by repeat (first | exact Ones.nil | exact Enc.ones _ _ | refine Ones.cons rfl ?_)) (by first | exact Nat.le_of_ble_eq_true rfl | (simp only [Enc.len]; decide)) ?_
          refine RW.st (fun _ => True) (fun _ h => .inr ⟨.inr ⟨.inr (by exact fun k x hk => hcw k x hk _ _ h), trivial⟩, trivial⟩) (fun _ h => trivial) ?_
          refine QuP.nil ?_
          refine UW.nil ?_
          -- mq: joinend
          exact EX.jnI g5 trivial (by repeat (first | exact Sub.nil | refine Sub.cons (by rfl) ?_)) (fun w' hw' => hw'.blkEq (by kernel_rfl))
        · skip
          refine RW.allocA ag26 rfl (fun g5 hg5 hf5 => ?_)
          refine RW.st (fun _ => True) (fun _ h => .inr (by exact fun k x hk => hcw k x hk _ _ h)) (fun _ h => trivial) ?_
          refine QuP.nil ?_
          refine UW.step [_] rfl (List.forall_mem_cons.2 ⟨?_, by simp⟩)
          refine RW.call rfl ca43 rfl (fun w' _ => num31_c w' x1 (hle x1 (by simp))) ?_
          refine RW.st (fun _ => True) (fun _ h => .inr ⟨.inr (by exact fun k x hk => hcw k x hk _ _ h), trivial⟩) (fun _ h => trivial) ?_
          refine QuP.cons rfl (fun wq hq => (RW.buildS bu26 rfl rfl rfl RW.jn)) ?_
          refine QuP.nil ?_
          refine UW.step [_] rfl (List.forall_mem_cons.2 ⟨?_, by simp⟩)
          refine RW.storeA ag26 rfl rfl (by first | exact Upd.head | exact Upd.tail Upd.head | exact Upd.tail (Upd.tail Upd.head) | exact Upd.tail (Upd.tail (Upd.tail Upd.head)) | exact Upd.tail (Upd.tail (Upd.tail (Upd.tail Upd.head))) | exact Upd.tail (Upd.tail (Upd.tail (Upd.tail (Upd.tail Upd.head)))) | exact Upd.tail (Upd.tail (Upd.tail (Upd.tail (Upd.tail (Upd.tail Upd.head)))))) (by first | rfl | exact Enc.len _ _) (by repeat (first | exact Ones.nil | exact Enc.ones _ _ | refine Ones.cons rfl ?_)) (by first | exact Nat.le_of_ble_eq_true rfl | (simp only [Enc.len]; decide)) ?_
          refine RW.st (fun _ => True) (fun _ h => .inr ⟨.inr ⟨.inr (by exact fun k x hk => hcw k x hk _ _ h), trivial⟩, trivial⟩) (fun _ h => trivial) ?_
          refine QuP.nil ?_
          refine UW.nil ?_
          -- mq: joinend
          exact EX.jnI g5 trivial (by repeat (first | exact Sub.nil | refine Sub.cons (by rfl) ?_)) (fun w' hw' => hw'.blkEq (by kernel_rfl))
      · skip
        intro g5 _
        refine EX.seq (CW.seq (CW.seq (CW.region ?_)))
        refine RW.assign rfl rfl ?_
        refine RW.nil (EX.seq (CW.block ?_))
        -- mq: loop
        refine CW.loop (ι := Nat) (fun k => [(0, .string (bs s)), (2, .pointer (some ⟨g2, 0, none⟩)), (4, .slice A4 n4 c4), (5, .pointer (some ⟨g5, 0, none⟩)), (6, .int .i64 (k : Int))]) (fun k => SH w3 (feet [blk g2 zeroB.cells 26]) [blk g5 (BlkV.mk (numU x1) (phU x2 k) 0 0 0 0 0 0 0 0 0 0 0 (decide (x4 ≠ [45])) (decide (x3 = [99, 117, 116])) [] []).cells 26, blk g2 zeroB.cells 26]) (fun k => k ≤ 5) (fun k => 5 - k) ?_ ?_
        · exact fun w' hw' => ⟨0, Nat.zero_le _, (by repeat (first | exact Sub.nil | refine Sub.cons (by rfl) ?_)), hw'⟩
        · intro k hk
          refine CW.seq (CW.seq (CW.region ?_))
          refine RW.move rfl rfl ?_
          refine RW.lss rfl rfl rfl ?_
          refine RW.nil (EX.seq ?_)
          -- mq: cond
          first | refine CW.condD rfl (fun hlt => ?_) (fun hlt => ?_) | refine CW.cond rfl (fun hlt => ?_) (fun hlt => ?_)
          · skip
            have hat : phasesL[k]? = some (phaseW (k : Int)) := phasesL_at (by omega)
            have hst : phU x2 (k + 1) = if x2 = phaseW (k : Int) then (k : Int) else phU x2 k := rfl
            refine CW.skip (EX.seq (CW.seq (CW.block (CW.seq ?_))))
            -- mq: region
            refine CW.drawU [0, 1, 2, 4] 2 [[(3, false, [5]), (6, false, [7])]] (WC ad [blockW, x1, x2, x3, x4, y1, y2, y3, y4, y5, y6, y7, y8, y9, y10, x15, x16]) mixed (by kernel_rfl) (fun _ hw => hw.drew) (fun _ h => (by first | exact fun k x hk => hcw k x hk _ _ h | exact fun k x hk => hcw k x hk _ _ (h.unbase hx36 hcv5))) ?_
            refine QuP.cons rfl (fun wq hq => (RW.move rfl rfl RW.jn)) ?_
            refine QuP.cons rfl (fun wq hq => (RW.ixAddr (q := 2) sl33 rfl rfl rfl (by first | rfl | assumption) (by omega) (by omega) RW.jn)) ?_
            refine QuP.cons rfl (fun wq hq => (RW.load1 sc9 rfl rfl (fun w1 e1 => by subst e1; exact (hq 2 x2 rfl)) RW.jn)) ?_
            refine QuP.cons rfl (fun wq hq => (RW.move rfl rfl RW.jn)) ?_
            refine QuP.nil ?_
            refine UW.step [_] rfl (List.forall_mem_cons.2 ⟨?_, by simp⟩)
            -- mq: op 3: ('Op.call', ('Call.mk', ('Callee.value', ('Operand.func', '14')), ('arr',), ('arr',))) -> slot 39 ("ref.go:121")
            refine RW.callK rfl ca14 rfl (fun w' _ => phases_c w') (fun w5 w6 A9 n9 c9 hw5 he56 hw6 hlt9 hrd9 => ?_)
            have hn9 : n9 = 5 := hrd9.len.symm
            have hx36 := hw5.ext.trans0 he56
            have hcv5 := hw5.cov
            obtain ⟨ad9, hA9, had9, hcell9⟩ := hrd9.at_ hat
            refine RW.st (fun _ => True) (fun _ h => .inr (by first | exact fun k x hk => hcw k x hk _ _ h | exact fun k x hk => hcw k x hk _ _ (h.unbase hx36 hcv5))) (fun _ h => trivial) ?_
            refine QuP.cons rfl (fun wq hq => (RW.ixAddr (q := k) sl33 rfl rfl rfl (by first | rfl | assumption) (by omega) (by omega) RW.jn)) ?_
            refine QuP.nil ?_
            refine UW.step [_] rfl (List.forall_mem_cons.2 ⟨?_, by simp⟩)
            -- mq: op 6: ('Op.load', '9', ('Operand.tmp', '41')) -> slot 42 ("ref.go:121")
            refine RW.load1 sc9 rfl rfl (fun w' hw' => hw'.base_cell (hcell9 0 _ rfl) (fun hk2 => by have := hlt9 _ hk2; have : w5.heap.size ≤ ad9.block := had9; simp only [block_add] at *; omega)) ?_
            refine RW.st (fun _ => True) (fun _ h => .inr ⟨.inr (by first | exact fun k x hk => hcw k x hk _ _ h | exact fun k x hk => hcw k x hk _ _ (h.unbase hx36 hcv5)), trivial⟩) (fun _ h => trivial) ?_
            refine QuP.cons rfl (fun wq hq => (RW.eqlS rfl rfl rfl RW.jn)) ?_
            refine QuP.nil ?_
            refine UW.nil (EX.seq ?_)
            -- mq: cond
            first | refine CW.condD rfl (fun heq => ?_) (fun heq => ?_) | refine CW.cond rfl (fun heq => ?_) (fun heq => ?_)
            · skip
              refine CW.region ?_
              refine RW.move rfl rfl ?_
              refine RW.fieldP fl26x1 rfl rfl ?_
              refine RW.store1 sc3 rfl rfl (by first | exact Upd.head | exact Upd.tail Upd.head | exact Upd.tail (Upd.tail Upd.head) | exact Upd.tail (Upd.tail (Upd.tail Upd.head)) | exact Upd.tail (Upd.tail (Upd.tail (Upd.tail Upd.head))) | exact Upd.tail (Upd.tail (Upd.tail (Upd.tail (Upd.tail Upd.head)))) | exact Upd.tail (Upd.tail (Upd.tail (Upd.tail (Upd.tail (Upd.tail Upd.head)))))) rfl (by first | exact Nat.le_of_ble_eq_true rfl | simp) ?_
              refine RW.nil (EX.bkN (EX.seq (CW.region ?_)))
              refine RW.move rfl rfl ?_
              refine RW.add rfl rfl rfl (wrap64 (by omega) (by omega)) ?_
              refine RW.assign rfl rfl ?_
              refine RW.nil ?_
              -- mq: loopend
              refine EX.lpN (k + 1) (by omega) (by omega) (by repeat (first | exact Sub.nil | refine Sub.cons (by rfl) ?_)) (fun w' hw' => ?_)
              rw [hst, if_pos heq]
              exact (hw'.unbase hx36 hcv5).blkEq (by kernel_rfl)
            · skip
              refine CW.skip (EX.bkN (EX.seq (CW.region ?_)))
              refine RW.move rfl rfl ?_
              refine RW.add rfl rfl rfl (wrap64 (by omega) (by omega)) ?_
              refine RW.assign rfl rfl ?_
              refine RW.nil ?_
              -- mq: loopend
              refine EX.lpN (k + 1) (by omega) (by omega) (by repeat (first | exact Sub.nil | refine Sub.cons (by rfl) ?_)) (fun w' hw' => ?_)
              rw [hst, if_neg heq]
              exact hw'.unbase hx36 hcv5
          · skip
            obtain rfl : k = 5 := by omega
            refine CW.exit (EX.seqE (EX.lpE (EX.bkE (EX.seq (CW.seq (CW.seq (CW.region ?_)))))))
            refine RW.fieldB fl26x8 rfl rfl ?_
            refine RW.loadB1 sc4 rfl rfl (by first | exact Has.head | exact Has.tail Has.head | exact Has.tail (Has.tail Has.head) | exact Has.tail (Has.tail (Has.tail Has.head)) | exact Has.tail (Has.tail (Has.tail (Has.tail Has.head))) | exact Has.tail (Has.tail (Has.tail (Has.tail (Has.tail Has.head)))) | exact Has.tail (Has.tail (Has.tail (Has.tail (Has.tail (Has.tail Has.head)))))) rfl ?_
            refine RW.nil (EX.seq ?_)
            -- mq: cond
            refine CW.join ([(0, .string (bs s)), (2, .pointer (some ⟨g2, 0, none⟩)), (4, .slice A4 n4 c4), (5, .pointer (some ⟨g5, 0, none⟩))]) (SH w3 (feet [blk g2 zeroB.cells 26]) [blk g5 (BlkV.mk (numU x1) (phU x2 5) 0 0 0 0 0 0 0 0 0 0 (codeU x4) (decide (x4 ≠ [45])) (decide (x3 = [99, 117, 116])) [] []).cells 26, blk g2 zeroB.cells 26]) ?_ ?_
            · skip
              first | refine CW.condD rfl (fun hh => ?_) (fun hh => ?_) | refine CW.cond rfl (fun hh => ?_) (fun hh => ?_)
              · skip
                refine CW.seq (CW.region ?_)
                refine RW.move rfl rfl ?_
                refine RW.ixAddr (q := 4) sl33 rfl rfl rfl (by first | rfl | assumption) (by omega) (by omega) ?_
                refine RW.load1 sc9 rfl rfl (fun w' hw' => hcw 4 x4 rfl _ _ hw') ?_
                refine RW.call rfl ca43 rfl (fun w' _ => num31_c w' x4 (hle x4 (by simp))) ?_
                refine RW.assign rfl rfl ?_
                refine RW.nil (EX.seq (CW.seq ?_))
                -- mq: region
                refine CW.region ?_
                refine RW.move rfl rfl ?_
                refine RW.convI (r := posU x4) rfl rfl Tryd.underlying22 Tryd.underlying3 rfl ?_
                refine RW.fieldB fl26x7 rfl rfl ?_
                refine RW.store1 sc3 rfl rfl (by first | exact Upd.head | exact Upd.tail Upd.head | exact Upd.tail (Upd.tail Upd.head) | exact Upd.tail (Upd.tail (Upd.tail Upd.head)) | exact Upd.tail (Upd.tail (Upd.tail (Upd.tail Upd.head))) | exact Upd.tail (Upd.tail (Upd.tail (Upd.tail (Upd.tail Upd.head)))) | exact Upd.tail (Upd.tail (Upd.tail (Upd.tail (Upd.tail (Upd.tail Upd.head)))))) rfl (by first | exact Nat.le_of_ble_eq_true rfl | simp) ?_
                refine RW.nil (EX.seq (CW.seq ?_))
                -- mq: region
                refine CW.sub (H' := SH w3 (feet [blk g2 zeroB.cells 26]) [blk g5 (BlkV.mk (numU x1) (phU x2 5) 0 0 0 0 0 0 0 0 0 0 (posU x4) (decide (x4 ≠ [45])) (decide (x3 = [99, 117, 116])) [] []).cells 26, blk g2 zeroB.cells 26]) ?_ (Sub.refl _) (fun x hx => hx.blkEq (by kernel_rfl))
                refine CW.region ?_
                refine RW.move rfl rfl ?_
                refine RW.ixAddr (q := 4) sl33 rfl rfl rfl (by first | rfl | assumption) (by omega) (by omega) ?_
                refine RW.load1 sc9 rfl rfl (fun w' hw' => hcw 4 x4 rfl _ _ hw') ?_
                refine RW.neqS rfl rfl rfl ?_
                refine RW.move rfl rfl ?_
                -- mq: guard slot 59
                refine RW.casesB 59 rfl (fun hne => ?_) (fun hne => ?_)
                · skip
                  have hnep := of_decide_eq_true hne
                  obtain ⟨c0, r0, rfl⟩ : ∃ c0 r0, x4 = c0 :: r0 := by
                    cases x4 with
                    | nil => exact absurd rfl hnep
                    | cons c r => exact ⟨c, r, rfl⟩
                  have hc8 := UInt8.toNat_lt c0
                  refine RW.guardT rfl rfl hne ?_
                  refine RW.move rfl rfl ?_
                  refine RW.guardT rfl rfl hne ?_
                  refine RW.ixAddr (q := 4) sl33 rfl rfl rfl (by first | rfl | assumption) (by omega) (by omega) ?_
                  refine RW.guardT rfl rfl hne ?_
                  refine RW.load1 sc9 rfl rfl (fun w' hw' => hcw 4 (c0 :: r0) rfl _ _ hw') ?_
                  refine RW.guardT rfl rfl hne ?_
                  refine RW.ixStr (q := 0) Tryd.underlying9 rfl rfl rfl (by rfl) rfl ?_
                  refine RW.guardT rfl rfl hne ?_
                  refine RW.eqlI rfl rfl rfl ?_
                  refine RW.pickB rfl rfl hne rfl ?_
                  refine RW.nil (EX.seq ?_)
                  -- mq: cond
                  first | refine CW.condD rfl (fun h45 => ?_) (fun h45 => ?_) | refine CW.cond rfl (fun h45 => ?_) (fun h45 => ?_)
                  · skip
                    refine CW.region ?_
                    refine RW.move rfl rfl ?_
                    refine RW.convI (r := posU (c0 :: r0)) rfl rfl Tryd.underlying22 Tryd.underlying3 rfl ?_
                    refine RW.neg_ (r := IntKind.i64.wrap (-posU (c0 :: r0))) rfl rfl (by rw [Int.zero_sub]) ?_
                    refine RW.fieldB fl26x7 rfl rfl ?_
                    refine RW.store1 sc3 rfl rfl (by first | exact Upd.head | exact Upd.tail Upd.head | exact Upd.tail (Upd.tail Upd.head) | exact Upd.tail (Upd.tail (Upd.tail Upd.head)) | exact Upd.tail (Upd.tail (Upd.tail (Upd.tail Upd.head))) | exact Upd.tail (Upd.tail (Upd.tail (Upd.tail (Upd.tail Upd.head)))) | exact Upd.tail (Upd.tail (Upd.tail (Upd.tail (Upd.tail (Upd.tail Upd.head)))))) rfl (by first | exact Nat.le_of_ble_eq_true rfl | simp) ?_
                    refine RW.nil ?_
                    -- mq: joinend
                    refine EX.jn (by repeat (first | exact Sub.nil | refine Sub.cons (by rfl) ?_)) (fun w' hw' => ?_)
                    have hcd : codeU (c0 :: r0) = IntKind.i64.wrap (-posU (c0 :: r0)) := by
                      have : c0 = 45 := UInt8.toNat_inj.1 (by have : (45 : UInt8).toNat = 45 := rfl; omega)
                      unfold codeU
                      rw [if_neg hh, if_pos (by rw [this]; rfl)]
                    rw [hcd]
                    exact hw'.blkEq (by kernel_rfl)
                  · skip
                    refine CW.skip ?_
                    -- mq: joinend
                    refine EX.jn (by repeat (first | exact Sub.nil | refine Sub.cons (by rfl) ?_)) (fun w' hw' => ?_)
                    have hcd : codeU (c0 :: r0) = posU (c0 :: r0) := by
                      unfold codeU
                      rw [if_neg hh, if_neg (fun e => h45 (by rw [Option.some.inj e]; rfl))]
                    rw [hcd]
                    exact hw'
                · skip
                  have hnep := of_decide_eq_false hne
                  refine RW.guardF rfl rfl rfl hne ?_
                  refine RW.guardF rfl rfl rfl hne ?_
                  refine RW.guardF rfl rfl rfl hne ?_
                  refine RW.guardF rfl rfl rfl hne ?_
                  refine RW.guardF rfl rfl rfl hne ?_
                  refine RW.pickC rfl rfl hne rfl ?_
                  refine RW.nil (EX.seq ?_)
                  -- mq: cond
                  refine CW.condF rfl (rfl) ?_
                  refine CW.skip ?_
                  -- mq: joinend
                  refine EX.jn (by repeat (first | exact Sub.nil | refine Sub.cons (by rfl) ?_)) (fun w' hw' => ?_)
                  have hcd : codeU x4 = posU x4 := by
                    have : x4 = [] := Decidable.not_not.1 hnep
                    rw [this]; rfl
                  rw [hcd]
                  exact hw'
              · skip
                refine CW.skip ?_
                -- mq: joinend
                refine EX.jn (by repeat (first | exact Sub.nil | refine Sub.cons (by rfl) ?_)) (fun w' hw' => ?_)
                have hcd : codeU x4 = 0 := by unfold codeU; rw [if_pos (Decidable.not_not.1 hh)]
                rw [hcd]
                exact hw'
            · skip
              refine EX.seq (CW.seq ?_)
              -- mq: region
              refine CW.drawU [0, 1, 2, 4, 5, 6] 3 [[(3, false, []), (7, false, [8, 9]), (10, false, [])]] (WC ad [blockW, x1, x2, x3, x4, y1, y2, y3, y4, y5, y6, y7, y8, y9, y10, x15, x16]) mixed (by kernel_rfl) (fun _ hw => hw.drew) (fun _ h => (by exact fun k x hk => hcw k x hk _ _ h)) ?_
              refine QuP.cons rfl (fun wq hq => (RW.move rfl rfl RW.jn)) ?_
              refine QuP.cons rfl (fun wq hq => (RW.ixAddr (q := 5) sl33 rfl rfl rfl (by first | rfl | assumption) (by omega) (by omega) RW.jn)) ?_
              refine QuP.cons rfl (fun wq hq => (RW.load1 sc9 rfl rfl (fun w1 e1 => by subst e1; exact (hq 5 y1 rfl)) RW.jn)) ?_
              refine QuP.cons rfl (fun wq hq => (RW.move rfl rfl RW.jn)) ?_
              refine QuP.cons rfl (fun wq hq => (RW.ixAddr (q := 6) sl33 rfl rfl rfl (by first | rfl | assumption) (by omega) (by omega) RW.jn)) ?_
              refine QuP.cons rfl (fun wq hq => (RW.load1 sc9 rfl rfl (fun w1 e1 => by subst e1; exact (hq 6 y2 rfl)) RW.jn)) ?_
              refine QuP.nil ?_
              refine UW.step [_] rfl (List.forall_mem_cons.2 ⟨?_, by simp⟩)
              refine RW.call rfl ca44 rfl (fun w' _ => row31_c w' y1 (hle y1 (by simp))) ?_
              refine RW.st (fun _ => True) (fun _ h => .inr (by exact fun k x hk => hcw k x hk _ _ h)) (fun _ h => trivial) ?_
              refine QuP.nil ?_
              refine UW.step [_] rfl (List.forall_mem_cons.2 ⟨?_, by simp⟩)
              refine RW.call rfl ca44 rfl (fun w' _ => row31_c w' y2 (hle y2 (by simp))) ?_
              refine RW.st (fun _ => True) (fun _ h => .inr ⟨.inr (by exact fun k x hk => hcw k x hk _ _ h), trivial⟩) (fun _ h => trivial) ?_
              refine QuP.cons rfl (fun wq hq => (RW.buildS bu24 rfl rfl rfl RW.jn)) ?_
              refine QuP.cons rfl (fun wq hq => (RW.fieldB fl26x2 rfl rfl RW.jn)) ?_
              refine QuP.nil ?_
              refine UW.step [_] rfl (List.forall_mem_cons.2 ⟨?_, by simp⟩)
              refine RW.storeA ag24 rfl rfl (by first | exact Upd.head | exact Upd.tail Upd.head | exact Upd.tail (Upd.tail Upd.head) | exact Upd.tail (Upd.tail (Upd.tail Upd.head)) | exact Upd.tail (Upd.tail (Upd.tail (Upd.tail Upd.head))) | exact Upd.tail (Upd.tail (Upd.tail (Upd.tail (Upd.tail Upd.head)))) | exact Upd.tail (Upd.tail (Upd.tail (Upd.tail (Upd.tail (Upd.tail Upd.head)))))) (by first | rfl | exact Enc.len _ _) (by repeat (first | exact Ones.nil | exact Enc.ones _ _ | refine Ones.cons rfl ?_)) (by first | exact Nat.le_of_ble_eq_true rfl | (simp only [Enc.len]; decide)) ?_
              refine RW.st (fun _ => True) (fun _ h => .inr ⟨.inr ⟨.inr (by exact fun k x hk => hcw k x hk _ _ h), trivial⟩, trivial⟩) (fun _ h => trivial) ?_
              refine QuP.nil ?_
              refine UW.nil (EX.seq (CW.seq ?_))
              -- mq: region
              refine CW.sub (H' := SH w3 (feet [blk g2 zeroB.cells 26]) [blk g5 (BlkV.mk (numU x1) (phU x2 5) (rowU y1) (rowU y2) 0 0 0 0 0 0 0 0 (codeU x4) (decide (x4 ≠ [45])) (decide (x3 = [99, 117, 116])) [] []).cells 26, blk g2 zeroB.cells 26]) ?_ (Sub.refl _) (fun x hx => hx.blkEq (by kernel_rfl))
              -- mq: region
              refine CW.drawU [0, 1, 2, 4, 5, 6] 3 [[(3, false, []), (7, false, [8, 9]), (10, false, [])]] (WC ad [blockW, x1, x2, x3, x4, y1, y2, y3, y4, y5, y6, y7, y8, y9, y10, x15, x16]) mixed (by kernel_rfl) (fun _ hw => hw.drew) (fun _ h => (by exact fun k x hk => hcw k x hk _ _ h)) ?_
              refine QuP.cons rfl (fun wq hq => (RW.move rfl rfl RW.jn)) ?_
              refine QuP.cons rfl (fun wq hq => (RW.ixAddr (q := 7) sl33 rfl rfl rfl (by first | rfl | assumption) (by omega) (by omega) RW.jn)) ?_
              refine QuP.cons rfl (fun wq hq => (RW.load1 sc9 rfl rfl (fun w1 e1 => by subst e1; exact (hq 7 y3 rfl)) RW.jn)) ?_
              refine QuP.cons rfl (fun wq hq => (RW.move rfl rfl RW.jn)) ?_
              refine QuP.cons rfl (fun wq hq => (RW.ixAddr (q := 8) sl33 rfl rfl rfl (by first | rfl | assumption) (by omega) (by omega) RW.jn)) ?_
              refine QuP.cons rfl (fun wq hq => (RW.load1 sc9 rfl rfl (fun w1 e1 => by subst e1; exact (hq 8 y4 rfl)) RW.jn)) ?_
              refine QuP.nil ?_
              refine UW.step [_] rfl (List.forall_mem_cons.2 ⟨?_, by simp⟩)
              refine RW.call rfl ca44 rfl (fun w' _ => row31_c w' y3 (hle y3 (by simp))) ?_
              refine RW.st (fun _ => True) (fun _ h => .inr (by exact fun k x hk => hcw k x hk _ _ h)) (fun _ h => trivial) ?_
              refine QuP.nil ?_
              refine UW.step [_] rfl (List.forall_mem_cons.2 ⟨?_, by simp⟩)
              refine RW.call rfl ca44 rfl (fun w' _ => row31_c w' y4 (hle y4 (by simp))) ?_
              refine RW.st (fun _ => True) (fun _ h => .inr ⟨.inr (by exact fun k x hk => hcw k x hk _ _ h), trivial⟩) (fun _ h => trivial) ?_
              refine QuP.cons rfl (fun wq hq => (RW.buildS bu24 rfl rfl rfl RW.jn)) ?_
              refine QuP.cons rfl (fun wq hq => (RW.fieldB fl26x3 rfl rfl RW.jn)) ?_
              refine QuP.nil ?_
              refine UW.step [_] rfl (List.forall_mem_cons.2 ⟨?_, by simp⟩)
              refine RW.storeA ag24 rfl rfl (by first | exact Upd.head | exact Upd.tail Upd.head | exact Upd.tail (Upd.tail Upd.head) | exact Upd.tail (Upd.tail (Upd.tail Upd.head)) | exact Upd.tail (Upd.tail (Upd.tail (Upd.tail Upd.head))) | exact Upd.tail (Upd.tail (Upd.tail (Upd.tail (Upd.tail Upd.head)))) | exact Upd.tail (Upd.tail (Upd.tail (Upd.tail (Upd.tail (Upd.tail Upd.head)))))) (by first | rfl | exact Enc.len _ _) (by repeat (first | exact Ones.nil | exact Enc.ones _ _ | refine Ones.cons rfl ?_)) (by first | exact Nat.le_of_ble_eq_true rfl | (simp only [Enc.len]; decide)) ?_
              refine RW.st (fun _ => True) (fun _ h => .inr ⟨.inr ⟨.inr (by exact fun k x hk => hcw k x hk _ _ h), trivial⟩, trivial⟩) (fun _ h => trivial) ?_
              refine QuP.nil ?_
              refine UW.nil (EX.seq (CW.seq ?_))
              -- mq: region
              refine CW.sub (H' := SH w3 (feet [blk g2 zeroB.cells 26]) [blk g5 (BlkV.mk (numU x1) (phU x2 5) (rowU y1) (rowU y2) (rowU y3) (rowU y4) 0 0 0 0 0 0 (codeU x4) (decide (x4 ≠ [45])) (decide (x3 = [99, 117, 116])) [] []).cells 26, blk g2 zeroB.cells 26]) ?_ (Sub.refl _) (fun x hx => hx.blkEq (by kernel_rfl))
              -- mq: region
              refine CW.drawU [0, 1, 2, 4, 5, 6] 3 [[(3, false, []), (7, false, [8, 9]), (10, false, [])]] (WC ad [blockW, x1, x2, x3, x4, y1, y2, y3, y4, y5, y6, y7, y8, y9, y10, x15, x16]) mixed (by kernel_rfl) (fun _ hw => hw.drew) (fun _ h => (by exact fun k x hk => hcw k x hk _ _ h)) ?_
              refine QuP.cons rfl (fun wq hq => (RW.move rfl rfl RW.jn)) ?_
              refine QuP.cons rfl (fun wq hq => (RW.ixAddr (q := 9) sl33 rfl rfl rfl (by first | rfl | assumption) (by omega) (by omega) RW.jn)) ?_
              refine QuP.cons rfl (fun wq hq => (RW.load1 sc9 rfl rfl (fun w1 e1 => by subst e1; exact (hq 9 y5 rfl)) RW.jn)) ?_
              refine QuP.cons rfl (fun wq hq => (RW.move rfl rfl RW.jn)) ?_
              refine QuP.cons rfl (fun wq hq => (RW.ixAddr (q := 10) sl33 rfl rfl rfl (by first | rfl | assumption) (by omega) (by omega) RW.jn)) ?_
              refine QuP.cons rfl (fun wq hq => (RW.load1 sc9 rfl rfl (fun w1 e1 => by subst e1; exact (hq 10 y6 rfl)) RW.jn)) ?_
              refine QuP.nil ?_
              refine UW.step [_] rfl (List.forall_mem_cons.2 ⟨?_, by simp⟩)
              refine RW.call rfl ca44 rfl (fun w' _ => row31_c w' y5 (hle y5 (by simp))) ?_
              refine RW.st (fun _ => True) (fun _ h => .inr (by exact fun k x hk => hcw k x hk _ _ h)) (fun _ h => trivial) ?_
              refine QuP.nil ?_
              refine UW.step [_] rfl (List.forall_mem_cons.2 ⟨?_, by simp⟩)
              refine RW.call rfl ca44 rfl (fun w' _ => row31_c w' y6 (hle y6 (by simp))) ?_
              refine RW.st (fun _ => True) (fun _ h => .inr ⟨.inr (by exact fun k x hk => hcw k x hk _ _ h), trivial⟩) (fun _ h => trivial) ?_
              refine QuP.cons rfl (fun wq hq => (RW.buildS bu24 rfl rfl rfl RW.jn)) ?_
              refine QuP.cons rfl (fun wq hq => (RW.fieldB fl26x4 rfl rfl RW.jn)) ?_
              refine QuP.nil ?_
              refine UW.step [_] rfl (List.forall_mem_cons.2 ⟨?_, by simp⟩)
              refine RW.storeA ag24 rfl rfl (by first | exact Upd.head | exact Upd.tail Upd.head | exact Upd.tail (Upd.tail Upd.head) | exact Upd.tail (Upd.tail (Upd.tail Upd.head)) | exact Upd.tail (Upd.tail (Upd.tail (Upd.tail Upd.head))) | exact Upd.tail (Upd.tail (Upd.tail (Upd.tail (Upd.tail Upd.head)))) | exact Upd.tail (Upd.tail (Upd.tail (Upd.tail (Upd.tail (Upd.tail Upd.head)))))) (by first | rfl | exact Enc.len _ _) (by repeat (first | exact Ones.nil | exact Enc.ones _ _ | refine Ones.cons rfl ?_)) (by first | exact Nat.le_of_ble_eq_true rfl | (simp only [Enc.len]; decide)) ?_
              refine RW.st (fun _ => True) (fun _ h => .inr ⟨.inr ⟨.inr (by exact fun k x hk => hcw k x hk _ _ h), trivial⟩, trivial⟩) (fun _ h => trivial) ?_
              refine QuP.nil ?_
              refine UW.nil (EX.seq (CW.seq ?_))
              -- mq: region
              refine CW.sub (H' := SH w3 (feet [blk g2 zeroB.cells 26]) [blk g5 (BlkV.mk (numU x1) (phU x2 5) (rowU y1) (rowU y2) (rowU y3) (rowU y4) (rowU y5) (rowU y6) 0 0 0 0 (codeU x4) (decide (x4 ≠ [45])) (decide (x3 = [99, 117, 116])) [] []).cells 26, blk g2 zeroB.cells 26]) ?_ (Sub.refl _) (fun x hx => hx.blkEq (by kernel_rfl))
              -- mq: region
              refine CW.drawU [0, 1, 2, 4, 5, 6] 3 [[(3, false, []), (7, false, [8, 9]), (10, false, [])]] (WC ad [blockW, x1, x2, x3, x4, y1, y2, y3, y4, y5, y6, y7, y8, y9, y10, x15, x16]) mixed (by kernel_rfl) (fun _ hw => hw.drew) (fun _ h => (by exact fun k x hk => hcw k x hk _ _ h)) ?_
              refine QuP.cons rfl (fun wq hq => (RW.move rfl rfl RW.jn)) ?_
              refine QuP.cons rfl (fun wq hq => (RW.ixAddr (q := 11) sl33 rfl rfl rfl (by first | rfl | assumption) (by omega) (by omega) RW.jn)) ?_
              refine QuP.cons rfl (fun wq hq => (RW.load1 sc9 rfl rfl (fun w1 e1 => by subst e1; exact (hq 11 y7 rfl)) RW.jn)) ?_
              refine QuP.cons rfl (fun wq hq => (RW.move rfl rfl RW.jn)) ?_
              refine QuP.cons rfl (fun wq hq => (RW.ixAddr (q := 12) sl33 rfl rfl rfl (by first | rfl | assumption) (by omega) (by omega) RW.jn)) ?_
              refine QuP.cons rfl (fun wq hq => (RW.load1 sc9 rfl rfl (fun w1 e1 => by subst e1; exact (hq 12 y8 rfl)) RW.jn)) ?_
              refine QuP.nil ?_
              refine UW.step [_] rfl (List.forall_mem_cons.2 ⟨?_, by simp⟩)
              refine RW.call rfl ca44 rfl (fun w' _ => row31_c w' y7 (hle y7 (by simp))) ?_
              refine RW.st (fun _ => True) (fun _ h => .inr (by exact fun k x hk => hcw k x hk _ _ h)) (fun _ h => trivial) ?_
              refine QuP.nil ?_
              refine UW.step [_] rfl (List.forall_mem_cons.2 ⟨?_, by simp⟩)
              refine RW.call rfl ca44 rfl (fun w' _ => row31_c w' y8 (hle y8 (by simp))) ?_
              refine RW.st (fun _ => True) (fun _ h => .inr ⟨.inr (by exact fun k x hk => hcw k x hk _ _ h), trivial⟩) (fun _ h => trivial) ?_
              refine QuP.cons rfl (fun wq hq => (RW.buildS bu24 rfl rfl rfl RW.jn)) ?_
              refine QuP.cons rfl (fun wq hq => (RW.fieldB fl26x5 rfl rfl RW.jn)) ?_
              refine QuP.nil ?_
              refine UW.step [_] rfl (List.forall_mem_cons.2 ⟨?_, by simp⟩)
              refine RW.storeA ag24 rfl rfl (by first | exact Upd.head | exact Upd.tail Upd.head | exact Upd.tail (Upd.tail Upd.head) | exact Upd.tail (Upd.tail (Upd.tail Upd.head)) | exact Upd.tail (Upd.tail (Upd.tail (Upd.tail Upd.head))) | exact Upd.tail (Upd.tail (Upd.tail (Upd.tail (Upd.tail Upd.head)))) | exact Upd.tail (Upd.tail (Upd.tail (Upd.tail (Upd.tail (Upd.tail Upd.head)))))) (by first | rfl | exact Enc.len _ _) (by repeat (first | exact Ones.nil | exact Enc.ones _ _ | refine Ones.cons rfl ?_)) (by first | exact Nat.le_of_ble_eq_true rfl | (simp only [Enc.len]; decide)) ?_
              refine RW.st (fun _ => True) (fun _ h => .inr ⟨.inr ⟨.inr (by exact fun k x hk => hcw k x hk _ _ h), trivial⟩, trivial⟩) (fun _ h => trivial) ?_
              refine QuP.nil ?_
              refine UW.nil (EX.seq (CW.seq ?_))
              -- mq: region
              refine CW.sub (H' := SH w3 (feet [blk g2 zeroB.cells 26]) [blk g5 (BlkV.mk (numU x1) (phU x2 5) (rowU y1) (rowU y2) (rowU y3) (rowU y4) (rowU y5) (rowU y6) (rowU y7) (rowU y8) 0 0 (codeU x4) (decide (x4 ≠ [45])) (decide (x3 = [99, 117, 116])) [] []).cells 26, blk g2 zeroB.cells 26]) ?_ (Sub.refl _) (fun x hx => hx.blkEq (by kernel_rfl))
              -- mq: region
              refine CW.drawU [0, 1, 2, 4, 5, 6] 3 [[(3, false, []), (7, false, [8, 9]), (10, false, [])]] (WC ad [blockW, x1, x2, x3, x4, y1, y2, y3, y4, y5, y6, y7, y8, y9, y10, x15, x16]) mixed (by kernel_rfl) (fun _ hw => hw.drew) (fun _ h => (by exact fun k x hk => hcw k x hk _ _ h)) ?_
              refine QuP.cons rfl (fun wq hq => (RW.move rfl rfl RW.jn)) ?_
              refine QuP.cons rfl (fun wq hq => (RW.ixAddr (q := 13) sl33 rfl rfl rfl (by first | rfl | assumption) (by omega) (by omega) RW.jn)) ?_
              refine QuP.cons rfl (fun wq hq => (RW.load1 sc9 rfl rfl (fun w1 e1 => by subst e1; exact (hq 13 y9 rfl)) RW.jn)) ?_
              refine QuP.cons rfl (fun wq hq => (RW.move rfl rfl RW.jn)) ?_
              refine QuP.cons rfl (fun wq hq => (RW.ixAddr (q := 14) sl33 rfl rfl rfl (by first | rfl | assumption) (by omega) (by omega) RW.jn)) ?_
              refine QuP.cons rfl (fun wq hq => (RW.load1 sc9 rfl rfl (fun w1 e1 => by subst e1; exact (hq 14 y10 rfl)) RW.jn)) ?_
              refine QuP.nil ?_
              refine UW.step [_] rfl (List.forall_mem_cons.2 ⟨?_, by simp⟩)
              refine RW.call rfl ca44 rfl (fun w' _ => row31_c w' y9 (hle y9 (by simp))) ?_
              refine RW.st (fun _ => True) (fun _ h => .inr (by exact fun k x hk => hcw k x hk _ _ h)) (fun _ h => trivial) ?_
              refine QuP.nil ?_
              refine UW.step [_] rfl (List.forall_mem_cons.2 ⟨?_, by simp⟩)
              refine RW.call rfl ca44 rfl (fun w' _ => row31_c w' y10 (hle y10 (by simp))) ?_
              refine RW.st (fun _ => True) (fun _ h => .inr ⟨.inr (by exact fun k x hk => hcw k x hk _ _ h), trivial⟩) (fun _ h => trivial) ?_
              refine QuP.cons rfl (fun wq hq => (RW.buildS bu24 rfl rfl rfl RW.jn)) ?_
              refine QuP.cons rfl (fun wq hq => (RW.fieldB fl26x6 rfl rfl RW.jn)) ?_
              refine QuP.nil ?_
              refine UW.step [_] rfl (List.forall_mem_cons.2 ⟨?_, by simp⟩)
              refine RW.storeA ag24 rfl rfl (by first | exact Upd.head | exact Upd.tail Upd.head | exact Upd.tail (Upd.tail Upd.head) | exact Upd.tail (Upd.tail (Upd.tail Upd.head)) | exact Upd.tail (Upd.tail (Upd.tail (Upd.tail Upd.head))) | exact Upd.tail (Upd.tail (Upd.tail (Upd.tail (Upd.tail Upd.head)))) | exact Upd.tail (Upd.tail (Upd.tail (Upd.tail (Upd.tail (Upd.tail Upd.head)))))) (by first | rfl | exact Enc.len _ _) (by repeat (first | exact Ones.nil | exact Enc.ones _ _ | refine Ones.cons rfl ?_)) (by first | exact Nat.le_of_ble_eq_true rfl | (simp only [Enc.len]; decide)) ?_
              refine RW.st (fun _ => True) (fun _ h => .inr ⟨.inr ⟨.inr (by exact fun k x hk => hcw k x hk _ _ h), trivial⟩, trivial⟩) (fun _ h => trivial) ?_
              refine QuP.nil ?_
              refine UW.nil (EX.seq (CW.seq ?_))
              -- mq: region
              refine CW.sub (H' := SH w3 (feet [blk g2 zeroB.cells 26]) [blk g5 (BlkV.mk (numU x1) (phU x2 5) (rowU y1) (rowU y2) (rowU y3) (rowU y4) (rowU y5) (rowU y6) (rowU y7) (rowU y8) (rowU y9) (rowU y10) (codeU x4) (decide (x4 ≠ [45])) (decide (x3 = [99, 117, 116])) [] []).cells 26, blk g2 zeroB.cells 26]) ?_ (Sub.refl _) (fun x hx => hx.blkEq (by kernel_rfl))
              refine CW.drawU [0, 1, 2, 4, 5, 6] 4 [[(3, false, [8]), (7, false, []), (9, false, [10]), (11, false, [])]] (WC ad [blockW, x1, x2, x3, x4, y1, y2, y3, y4, y5, y6, y7, y8, y9, y10, x15, x16]) mixed (by kernel_rfl) (fun _ hw => hw.drew) (fun _ h => (by exact fun k x hk => hcw k x hk _ _ h)) ?_
              refine QuP.cons rfl (fun wq hq => (RW.move rfl rfl RW.jn)) ?_
              refine QuP.cons rfl (fun wq hq => (RW.ixAddr (q := 15) sl33 rfl rfl rfl (by first | rfl | assumption) (by omega) (by omega) RW.jn)) ?_
              refine QuP.cons rfl (fun wq hq => (RW.load1 sc9 rfl rfl (fun w1 e1 => by subst e1; exact (hq 15 x15 rfl)) RW.jn)) ?_
              refine QuP.cons rfl (fun wq hq => (RW.move rfl rfl RW.jn)) ?_
              refine QuP.cons rfl (fun wq hq => (RW.ixAddr (q := 16) sl33 rfl rfl rfl (by first | rfl | assumption) (by omega) (by omega) RW.jn)) ?_
              refine QuP.cons rfl (fun wq hq => (RW.load1 sc9 rfl rfl (fun w1 e1 => by subst e1; exact (hq 16 x16 rfl)) RW.jn)) ?_
              refine QuP.nil ?_
              refine UW.step [_] rfl (List.forall_mem_cons.2 ⟨?_, by simp⟩)
              refine RW.call rfl ca45 rfl (fun w' _ => bytes31_c w' x15 (hle x15 (by simp))) ?_
              refine RW.st (fun _ => True) (fun _ h => .inr (by exact fun k x hk => hcw k x hk _ _ h)) (fun _ h => trivial) ?_
              refine QuP.cons rfl (fun wq hq => (RW.fieldB fl26x10 rfl rfl RW.jn)) ?_
              refine QuP.nil ?_
              refine UW.step [_] rfl (List.forall_mem_cons.2 ⟨?_, by simp⟩)
              refine RW.call rfl ca45 rfl (fun w' _ => bytes31_c w' x16 (hle x16 (by simp))) ?_
              refine RW.st (fun _ => True) (fun _ h => .inr ⟨.inr (by exact fun k x hk => hcw k x hk _ _ h), trivial⟩) (fun _ h => trivial) ?_
              refine QuP.nil ?_
              refine UW.step [_] rfl (List.forall_mem_cons.2 ⟨?_, by simp⟩)
              refine RW.store1 sc9 rfl rfl (by first | exact Upd.head | exact Upd.tail Upd.head | exact Upd.tail (Upd.tail Upd.head) | exact Upd.tail (Upd.tail (Upd.tail Upd.head)) | exact Upd.tail (Upd.tail (Upd.tail (Upd.tail Upd.head))) | exact Upd.tail (Upd.tail (Upd.tail (Upd.tail (Upd.tail Upd.head)))) | exact Upd.tail (Upd.tail (Upd.tail (Upd.tail (Upd.tail (Upd.tail Upd.head)))))) rfl (by first | exact Nat.le_of_ble_eq_true rfl | simp) ?_
              refine RW.st (fun _ => True) (fun _ h => .inr ⟨.inr ⟨.inr (by exact fun k x hk => hcw k x hk _ _ h), trivial⟩, trivial⟩) (fun _ h => trivial) ?_
              refine QuP.cons rfl (fun wq hq => (RW.fieldB fl26x11 rfl rfl RW.jn)) ?_
              refine QuP.nil ?_
              refine UW.step [_] rfl (List.forall_mem_cons.2 ⟨?_, by simp⟩)
              refine RW.store1 sc9 rfl rfl (by first | exact Upd.head | exact Upd.tail Upd.head | exact Upd.tail (Upd.tail Upd.head) | exact Upd.tail (Upd.tail (Upd.tail Upd.head)) | exact Upd.tail (Upd.tail (Upd.tail (Upd.tail Upd.head))) | exact Upd.tail (Upd.tail (Upd.tail (Upd.tail (Upd.tail Upd.head)))) | exact Upd.tail (Upd.tail (Upd.tail (Upd.tail (Upd.tail (Upd.tail Upd.head)))))) rfl (by first | exact Nat.le_of_ble_eq_true rfl | simp) ?_
              refine RW.st (fun _ => True) (fun _ h => .inr ⟨.inr ⟨.inr ⟨.inr (by exact fun k x hk => hcw k x hk _ _ h), trivial⟩, trivial⟩, trivial⟩) (fun _ h => trivial) ?_
              refine QuP.nil ?_
              refine UW.nil (EX.seq (CW.seq (CW.seq ?_)))
              -- mq: region
              refine CW.sub (H' := SH w3 (feet [blk g2 zeroB.cells 26]) [blk g5 (guessB x1 x2 x3 x4 y1 y2 y3 y4 y5 y6 y7 y8 y9 y10 x15 x16).cells 26, blk g2 zeroB.cells 26]) ?_ (Sub.refl _) (fun x hx => hx.blkEq (by kernel_rfl))
              have hwf := guess_wf x1 x2 x3 x4 y1 y2 y3 y4 y5 y6 y7 y8 y9 y10 x15 x16
              generalize (guessB x1 x2 x3 x4 y1 y2 y3 y4 y5 y6 y7 y8 y9 y10 x15 x16) = b at hlaw hwf ⊢
              refine CW.region ?_
              refine RW.loadBA ag26 rfl rfl (by first | exact Has.head | exact Has.tail Has.head | exact Has.tail (Has.tail Has.head) | exact Has.tail (Has.tail (Has.tail Has.head)) | exact Has.tail (Has.tail (Has.tail (Has.tail Has.head))) | exact Has.tail (Has.tail (Has.tail (Has.tail (Has.tail Has.head)))) | exact Has.tail (Has.tail (Has.tail (Has.tail (Has.tail (Has.tail Has.head)))))) rfl rfl ?_
              refine RW.call rfl ca16 rfl (fun w' _ => refTold_c w' b) ?_
              refine RW.not_ rfl rfl ?_
              refine RW.move rfl rfl ?_
              -- mq: guard slot 133
              refine RW.casesB 133 rfl (fun ht => ?_) (fun ht => ?_)
              · skip
                have ht' : ¬ toldB b = true := by simpa using ht
                refine RW.guardF rfl rfl rfl ht ?_
                refine RW.guardF rfl rfl rfl ht ?_
                refine RW.guardF rfl rfl rfl ht ?_
                refine RW.guardF rfl rfl rfl ht ?_
                refine RW.pickB rfl rfl ht rfl ?_
                refine RW.nil (EX.seq ?_)
                -- mq: cond
                refine CW.condT rfl (rfl) ?_
                refine CW.sub (H' := SH w3 (feet [blk g2 zeroB.cells 26]) [blk g5 b.cells 26, blk g2 [.int .u64 0, .int .i64 0, .int .i64 0, .int .i64 0, .int .i64 0, .int .i64 0, .int .i64 0, .int .i64 0, .int .i64 0, .int .i64 0, .int .i64 0, .int .i64 0, .int .i64 0, .bool false, .bool false, .string ByteArray.empty, .string ByteArray.empty] 26]) ?_ (Sub.refl _) (fun x hx => hx.csEq (by kernel_rfl))
                refine CW.seq (CW.region ?_)
                refine RW.buildS bu26 rfl rfl rfl ?_
                refine RW.storeA ag26 rfl rfl (by first | exact Upd.head | exact Upd.tail Upd.head | exact Upd.tail (Upd.tail Upd.head) | exact Upd.tail (Upd.tail (Upd.tail Upd.head)) | exact Upd.tail (Upd.tail (Upd.tail (Upd.tail Upd.head))) | exact Upd.tail (Upd.tail (Upd.tail (Upd.tail (Upd.tail Upd.head)))) | exact Upd.tail (Upd.tail (Upd.tail (Upd.tail (Upd.tail (Upd.tail Upd.head)))))) (by first | rfl | exact Enc.len _ _) (by repeat (first | exact Ones.nil | exact Enc.ones _ _ | refine Ones.cons rfl ?_)) (by first | exact Nat.le_of_ble_eq_true rfl | (simp only [Enc.len]; decide)) ?_
                refine RW.assign rfl rfl ?_
                refine RW.nil (EX.seq (CW.ret (EX.seqR ?_)))
                refine EX.fin2' Tryd.results19 (RV.cellA ag26 rfl (by first | exact Has.head | exact Has.tail Has.head | exact Has.tail (Has.tail Has.head) | exact Has.tail (Has.tail (Has.tail Has.head)) | exact Has.tail (Has.tail (Has.tail (Has.tail Has.head))) | exact Has.tail (Has.tail (Has.tail (Has.tail (Has.tail Has.head)))) | exact Has.tail (Has.tail (Has.tail (Has.tail (Has.tail (Has.tail Has.head)))))) rfl rfl) (RV.tmp rfl) (fun wz hw => ?_)
                -- mq: done
                exact ⟨by rw [hlaw, if_neg (fun h => ht' h.1)]; rfl, ((hw.rem Rem.head).rem Rem.head).unbase hx13 hcv |>.ext⟩
              · skip
                have ht' : toldB b = true := by simpa using ht
                refine RW.guardT rfl rfl ht ?_
                refine RW.loadBA ag26 rfl rfl (by first | exact Has.head | exact Has.tail Has.head | exact Has.tail (Has.tail Has.head) | exact Has.tail (Has.tail (Has.tail Has.head)) | exact Has.tail (Has.tail (Has.tail (Has.tail Has.head))) | exact Has.tail (Has.tail (Has.tail (Has.tail (Has.tail Has.head)))) | exact Has.tail (Has.tail (Has.tail (Has.tail (Has.tail (Has.tail Has.head)))))) rfl rfl ?_
                refine RW.guardT rfl rfl ht ?_
                refine RW.call rfl ca18 rfl (fun w' _ => refLine31_c w' b hwf ht') ?_
                refine RW.guardT rfl rfl ht ?_
                refine RW.move rfl rfl ?_
                refine RW.guardT rfl rfl ht ?_
                refine RW.neqS rfl rfl rfl ?_
                refine RW.pickC rfl rfl ht rfl ?_
                refine RW.nil (EX.seq ?_)
                -- mq: cond
                first | refine CW.condD rfl (fun hne => ?_) (fun hne => ?_) | refine CW.cond rfl (fun hne => ?_) (fun hne => ?_)
                · skip
                  refine CW.sub (H' := SH w3 (feet [blk g2 zeroB.cells 26]) [blk g5 b.cells 26, blk g2 [.int .u64 0, .int .i64 0, .int .i64 0, .int .i64 0, .int .i64 0, .int .i64 0, .int .i64 0, .int .i64 0, .int .i64 0, .int .i64 0, .int .i64 0, .int .i64 0, .int .i64 0, .bool false, .bool false, .string ByteArray.empty, .string ByteArray.empty] 26]) ?_ (Sub.refl _) (fun x hx => hx.csEq (by kernel_rfl))
                  refine CW.seq (CW.region ?_)
                  refine RW.buildS bu26 rfl rfl rfl ?_
                  refine RW.storeA ag26 rfl rfl (by first | exact Upd.head | exact Upd.tail Upd.head | exact Upd.tail (Upd.tail Upd.head) | exact Upd.tail (Upd.tail (Upd.tail Upd.head)) | exact Upd.tail (Upd.tail (Upd.tail (Upd.tail Upd.head))) | exact Upd.tail (Upd.tail (Upd.tail (Upd.tail (Upd.tail Upd.head)))) | exact Upd.tail (Upd.tail (Upd.tail (Upd.tail (Upd.tail (Upd.tail Upd.head)))))) (by first | rfl | exact Enc.len _ _) (by repeat (first | exact Ones.nil | exact Enc.ones _ _ | refine Ones.cons rfl ?_)) (by first | exact Nat.le_of_ble_eq_true rfl | (simp only [Enc.len]; decide)) ?_
                  refine RW.assign rfl rfl ?_
                  refine RW.nil (EX.seq (CW.ret (EX.seqR ?_)))
                  refine EX.fin2' Tryd.results19 (RV.cellA ag26 rfl (by first | exact Has.head | exact Has.tail Has.head | exact Has.tail (Has.tail Has.head) | exact Has.tail (Has.tail (Has.tail Has.head)) | exact Has.tail (Has.tail (Has.tail (Has.tail Has.head))) | exact Has.tail (Has.tail (Has.tail (Has.tail (Has.tail Has.head)))) | exact Has.tail (Has.tail (Has.tail (Has.tail (Has.tail (Has.tail Has.head)))))) rfl rfl) (RV.tmp rfl) (fun wz hw => ?_)
                  -- mq: done
                  exact ⟨by rw [hlaw, if_neg (fun h => hne h.2)]; rfl, ((hw.rem Rem.head).rem Rem.head).unbase hx13 hcv |>.ext⟩
                · skip
                  refine CW.sub (H' := SH w3 (feet [blk g2 zeroB.cells 26]) [blk g5 b.cells 26, blk g2 [.int .u64 0, .int .i64 0, .int .i64 0, .int .i64 0, .int .i64 0, .int .i64 0, .int .i64 0, .int .i64 0, .int .i64 0, .int .i64 0, .int .i64 0, .int .i64 0, .int .i64 0, .bool false, .bool false, .string ByteArray.empty, .string ByteArray.empty] 26]) ?_ (Sub.refl _) (fun x hx => hx.csEq (by kernel_rfl))
                  refine CW.skip (EX.seq (CW.seq (CW.region ?_)))
                  refine RW.loadBA ag26 rfl rfl (by first | exact Has.head | exact Has.tail Has.head | exact Has.tail (Has.tail Has.head) | exact Has.tail (Has.tail (Has.tail Has.head)) | exact Has.tail (Has.tail (Has.tail (Has.tail Has.head))) | exact Has.tail (Has.tail (Has.tail (Has.tail (Has.tail Has.head)))) | exact Has.tail (Has.tail (Has.tail (Has.tail (Has.tail (Has.tail Has.head)))))) rfl rfl ?_
                  refine RW.storeA ag26 rfl rfl (by first | exact Upd.head | exact Upd.tail Upd.head | exact Upd.tail (Upd.tail Upd.head) | exact Upd.tail (Upd.tail (Upd.tail Upd.head)) | exact Upd.tail (Upd.tail (Upd.tail (Upd.tail Upd.head))) | exact Upd.tail (Upd.tail (Upd.tail (Upd.tail (Upd.tail Upd.head)))) | exact Upd.tail (Upd.tail (Upd.tail (Upd.tail (Upd.tail (Upd.tail Upd.head)))))) (by first | rfl | exact Enc.len _ _) (by repeat (first | exact Ones.nil | exact Enc.ones _ _ | refine Ones.cons rfl ?_)) (by first | exact Nat.le_of_ble_eq_true rfl | (simp only [Enc.len]; decide)) ?_
                  refine RW.assign rfl rfl ?_
                  refine RW.nil (EX.seq (CW.ret ?_))
                  refine EX.fin2' Tryd.results19 (RV.cellA ag26 rfl (by first | exact Has.head | exact Has.tail Has.head | exact Has.tail (Has.tail Has.head) | exact Has.tail (Has.tail (Has.tail Has.head)) | exact Has.tail (Has.tail (Has.tail (Has.tail Has.head))) | exact Has.tail (Has.tail (Has.tail (Has.tail (Has.tail Has.head)))) | exact Has.tail (Has.tail (Has.tail (Has.tail (Has.tail (Has.tail Has.head)))))) rfl rfl) (RV.tmp rfl) (fun wz hw => ?_)
                  -- mq: done
                  exact ⟨by rw [hlaw, if_pos ⟨ht', Decidable.not_not.1 hne⟩]; rfl, ((hw.rem Rem.head).rem Rem.head).unbase hx13 hcv |>.ext⟩
end Go.Proofs.YtnkdabjahmjdoaaDoor.Mq
