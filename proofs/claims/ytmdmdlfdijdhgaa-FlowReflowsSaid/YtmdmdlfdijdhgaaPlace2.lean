/- walks: Count, Offset of the reference -/
import Derived.Test.YtmdmdlfdijdhgaaPlace1
namespace Go.Proofs.Ytmdmdlfdijdhgaa.Mq
open Go Go.RowKit Go.Proofs

theorem RdRows.cut {w : World} {F : Nat → Prop} {A : Option Addr} {n c : Nat} {rows : List RowL} (h : RdRows w F A n c rows) {p q : Nat} (h1 : p ≤ q) (h2 : q ≤ n) :
    RdRows w F (if c = p then A else A.map (·.add (p * 2))) (q - p) (c - p) ((rows.take q).drop p) := by
  obtain ⟨rs, g1, g2, g3⟩ := h.prf
  refine ⟨(rs.take q).drop p, g1.cut h1 h2, ?_, fun k r row hk hr => ?_⟩
  · rw [List.map_drop, List.map_take, g2, List.map_drop, List.map_take]
  · rw [List.getElem?_drop, List.getElem?_take] at hk hr
    split at hk
    · rename_i hlt
      rw [if_pos hlt] at hr
      exact g3 _ r row hk hr
    · cases hk
theorem cellsOf_app (a b : List RowL) : cellsOf (a ++ b) = cellsOf a ++ cellsOf b := by simp [cellsOf]
theorem sumLen_app (a b : List RowL) : sumLen (a ++ b) = sumLen a + sumLen b := by simp [sumLen]
theorem sumLen_drop_le (rows : List RowL) (k : Nat) : sumLen (rows.drop k) ≤ sumLen rows := by
  have h := List.take_append_drop k rows
  have : sumLen rows = sumLen (rows.take k) + sumLen (rows.drop k) := by rw [← sumLen_app, h]
  omega
theorem cnt_cut (rows : List RowL) (p q : Nat) (h : p ≤ q) : (cellsOf ((rows.take q).drop p)).length = cnt rows q - cnt rows p := by
  have h1 := List.take_append_drop p (rows.take q)
  rw [List.take_take, Nat.min_eq_left h] at h1
  have h2 := congrArg (fun l => (cellsOf l).length) h1
  simp only [cellsOf_app, List.length_append] at h2
  unfold cnt
  omega
theorem cnt_all (rows : List RowL) : cnt rows rows.length = (cellsOf rows).length := by rw [cnt, List.take_length]
theorem Count_c (w : World) (F : Nat → Prop) (A : Option Addr) (n c : Nat) (rows : List RowL) (hr : RdRows w F A n c rows) (hn : n ≤ 1000000) (hm : sumLen rows ≤ 1000000) :
    Calls Try.prog 37 [.slice A n c].toArray w (fun e w' => e = .returned (.int .i64 ((cellsOf rows).length : Int)) ∧ Ext [] w w') := by
  have hl := hr.len
  refine calls (n := 35) Try.func37 rfl Try.ntmps37 rfl ?_
  refine CW.sub (H' := SH w [] []) ?_ (Sub.refl _) (fun x hx => SH.start' _ _ hx)
  refine CW.seq (CW.region ?_)
  refine RW.assign rfl rfl ?_
  refine RW.nil (EX.seq (CW.seq (CW.region ?_)))
  refine RW.assign rfl rfl ?_
  refine RW.nil (EX.seq (CW.seq (CW.seq (CW.region ?_))))
  refine RW.assign rfl rfl ?_
  refine RW.nil (EX.seq (CW.block ?_))
  -- mq: loop
  refine CW.loop (ι := Nat) (fun i => [(0, .slice A n c), (3, .int .i64 (cnt rows i : Int)), (4, .int .i64 (i : Int))]) (fun _ => SH w [] []) (fun i => i ≤ n) (fun i => n - i) ?_ ?_
  · exact fun w hw => ⟨0, Nat.zero_le _, (by repeat (first | exact Sub.nil | refine Sub.cons (by rfl) ?_)), hw⟩
  · rintro k hk
    refine CW.seq (CW.seq (CW.region ?_))
    refine RW.move rfl rfl ?_
    refine RW.move rfl rfl ?_
    refine RW.lenSl Try.underlying24 rfl rfl ?_
    refine RW.lss rfl rfl rfl ?_
    refine RW.nil (EX.seq ?_)
    -- mq: cond
    first | refine CW.condD rfl (fun hlt => ?_) (fun hlt => ?_) | refine CW.cond rfl (fun hlt => ?_) (fun hlt => ?_)
    · skip
      obtain ⟨row, hrow⟩ : ∃ row, rows[k]? = some row := ⟨rows[k]'(by omega), List.getElem?_eq_getElem _⟩
      obtain ⟨ad, B, m, d, hA, _, hcell, hrd⟩ := hr.at_ hrow
      have hmm := hrd.len
      have hcs := cnt_succ hrow
      have hcl := cnt_le rows k
      have hrl := mem_sumLen0 (List.mem_of_getElem? hrow)
      refine CW.skip (EX.seq (CW.seq (CW.block (CW.seq (CW.region ?_)))))
      refine RW.assign rfl rfl ?_
      refine RW.nil (EX.seq (CW.block ?_))
      -- mq: loop
      refine CW.loop (ι := Nat) (fun i => [(0, .slice A n c), (3, .int .i64 ((cnt rows k : Int) + (cntR (row.1.take i) : Int))), (4, .int .i64 (k : Int)), (5, .int .i64 (i : Int))]) (fun _ => SH w [] []) (fun i => i ≤ m) (fun i => m - i) ?_ ?_
      · exact fun w hw => ⟨0, Nat.zero_le _, Sub.cons (by rfl) (Sub.cons (by simp [look, cntR]) (by repeat (first | exact Sub.nil | refine Sub.cons (by rfl) ?_))), hw⟩
      · rintro j hj
        have hcr := cntR_le (row.1.take j)
        rw [List.length_take] at hcr
        refine CW.seq (CW.seq (CW.region ?_))
        refine RW.move rfl rfl ?_
        refine RW.move rfl rfl ?_
        refine RW.move rfl rfl ?_
        refine RW.ixAddr (q := k) sl24 rfl rfl rfl (by first | rfl | assumption) (by omega) (by omega) ?_
        refine RW.fieldP fl45x0 rfl rfl ?_
        refine RW.load1 sc22 rfl rfl (fun w' hw' => hw'.base_cell (hcell 0 _ rfl) (by simp)) ?_
        refine RW.lenSl Try.underlying22 rfl rfl ?_
        refine RW.lss rfl rfl rfl ?_
        refine RW.nil (EX.seq ?_)
        -- mq: cond
        first | refine CW.condD rfl (fun hjt => ?_) (fun hjt => ?_) | refine CW.cond rfl (fun hjt => ?_) (fun hjt => ?_)
        · skip
          obtain ⟨x, hx⟩ : ∃ x, row.1[j]? = some x := ⟨row.1[j]'(by omega), List.getElem?_eq_getElem _⟩
          obtain ⟨bd, hB, _, hxc⟩ := hrd.at_ hx
          have hcs2 := cntR_snoc hx
          refine CW.skip (EX.seq (CW.seq (CW.block (CW.seq (CW.region ?_)))))
          refine RW.move rfl rfl ?_
          refine RW.move rfl rfl ?_
          refine RW.ixAddr (q := k) sl24 rfl rfl rfl (by first | rfl | assumption) (by omega) (by omega) ?_
          refine RW.fieldP fl45x0 rfl rfl ?_
          refine RW.load1 sc22 rfl rfl (fun w' hw' => hw'.base_cell (hcell 0 _ rfl) (by simp)) ?_
          refine RW.move rfl rfl ?_
          refine RW.ixAddr (q := j) sl22 rfl rfl rfl (by first | rfl | assumption) (by omega) (by omega) ?_
          refine RW.fieldP fl34x2 rfl rfl ?_
          refine RW.load1 sc3 rfl rfl (fun w' hw' => hw'.base_cell (hxc 2 _ rfl) (by simp)) ?_
          refine RW.neqI rfl rfl rfl ?_
          refine RW.nil (EX.seq ?_)
          -- mq: cond
          first | refine CW.condD rfl (fun h3 => ?_) (fun h3 => ?_) | refine CW.cond rfl (fun h3 => ?_) (fun h3 => ?_)
          · skip
            refine CW.region ?_
            refine RW.move rfl rfl ?_
            refine RW.add rfl rfl rfl (wrap64 (by omega) (by omega)) ?_
            refine RW.assign rfl rfl ?_
            refine RW.nil (EX.bkN (EX.seq (CW.region ?_)))
            refine RW.move rfl rfl ?_
            refine RW.add rfl rfl rfl (wrap64 (by omega) (by omega)) ?_
            refine RW.assign rfl rfl ?_
            refine RW.nil ?_
            -- mq: loopend
            rw [if_pos h3] at hcs2
            exact EX.lpN (j + 1) (by omega) (by omega) (Sub.cons (by rfl) (Sub.cons (by rw [hcs2]; simp [look]; omega) (by repeat (first | exact Sub.nil | refine Sub.cons (by rfl) ?_)))) (fun w' hw' => hw')
          · skip
            refine CW.skip (EX.bkN (EX.seq (CW.region ?_)))
            refine RW.move rfl rfl ?_
            refine RW.add rfl rfl rfl (wrap64 (by omega) (by omega)) ?_
            refine RW.assign rfl rfl ?_
            refine RW.nil ?_
            -- mq: loopend
            rw [if_neg h3] at hcs2
            exact EX.lpN (j + 1) (by omega) (by omega) (Sub.cons (by rfl) (Sub.cons (by rw [hcs2]; rfl) (by repeat (first | exact Sub.nil | refine Sub.cons (by rfl) ?_)))) (fun w' hw' => hw')
        · skip
          refine CW.exit (EX.seqE (EX.lpE (EX.bkE (EX.bkN (EX.seq (CW.region ?_))))))
          refine RW.move rfl rfl ?_
          refine RW.add rfl rfl rfl (wrap64 (by omega) (by omega)) ?_
          refine RW.assign rfl rfl ?_
          refine RW.nil ?_
          -- mq: loopend
          have hjm : j = m := by omega
          subst hjm
          rw [List.take_of_length_le (by omega)]
          exact EX.lpN (k + 1) (by omega) (by omega) (Sub.cons (by rfl) (Sub.cons (by rw [hcs]; simp [look]) (by repeat (first | exact Sub.nil | refine Sub.cons (by rfl) ?_)))) (fun w' hw' => hw')
    · skip
      refine CW.exit (EX.seqE (EX.lpE (EX.bkE (EX.seq (CW.seq (CW.region ?_))))))
      refine RW.move rfl rfl ?_
      refine RW.assign rfl rfl ?_
      refine RW.nil (EX.seq (CW.ret ?_))
      refine EX.fin1 Try.results37 rfl (fun wz hw => ?_)
      -- mq: done
      have hkn : k = n := by omega
      subst hkn
      exact ⟨by rw [← hl, cnt_all], hw.ext⟩
theorem refOffset_c (w : World) (F : Nat → Prop) (A : Option Addr) (n c : Nat) (rows : List RowL) (hr : RdRows w F A n c rows) (prow pcol : Int) (hn : n ≤ 1000000) (hm : sumLen rows ≤ 1000000) :
    Calls Try.prog 24 [.slice A n c, .agg [.int .i64 prow, .int .i64 pcol].toArray].toArray w (fun e w' => e = .returned (.int .i64 (offR rows ⟨prow, pcol⟩)) ∧ Ext [] w w') := by
  have hl := hr.len
  refine calls (n := 40) Try.func24 rfl Try.ntmps24 rfl ?_
  refine CW.sub (H' := SH w [] []) ?_ (Sub.refl _) (fun x hx => SH.start' _ _ hx)
  refine CW.seq (CW.region ?_)
  refine RW.boxA rfl rfl (fun g3 hg3 hf3 => ?_)
  refine RW.assign rfl rfl ?_
  refine RW.nil (EX.seq (CW.seq (CW.seq (CW.region ?_))))
  refine RW.fieldB fl47x0 rfl rfl ?_
  refine RW.loadB1 sc3 rfl rfl (by first | exact Has.head | exact Has.tail Has.head | exact Has.tail (Has.tail Has.head) | exact Has.tail (Has.tail (Has.tail Has.head)) | exact Has.tail (Has.tail (Has.tail (Has.tail Has.head))) | exact Has.tail (Has.tail (Has.tail (Has.tail (Has.tail Has.head)))) | exact Has.tail (Has.tail (Has.tail (Has.tail (Has.tail (Has.tail Has.head)))))) rfl ?_
  refine RW.lss rfl rfl rfl ?_
  refine RW.nil (EX.seq ?_)
  -- mq: cond
  first | refine CW.condD rfl (fun h1 => ?_) (fun h1 => ?_) | refine CW.cond rfl (fun h1 => ?_) (fun h1 => ?_)
  · skip
    refine CW.seq (CW.region ?_)
    refine RW.assign rfl rfl ?_
    refine RW.nil (EX.seq (CW.ret (EX.seqR ?_)))
    refine EX.fin1 Try.results24 rfl (fun wz hw => ?_)
    -- mq: done
    exact ⟨by rw [offR, if_pos (show prow < 0 from h1)], hw.ext⟩
  · skip
    refine CW.skip (EX.seq (CW.seq (CW.seq (CW.region ?_))))
    refine RW.fieldB fl47x0 rfl rfl ?_
    refine RW.loadB1 sc3 rfl rfl (by first | exact Has.head | exact Has.tail Has.head | exact Has.tail (Has.tail Has.head) | exact Has.tail (Has.tail (Has.tail Has.head)) | exact Has.tail (Has.tail (Has.tail (Has.tail Has.head))) | exact Has.tail (Has.tail (Has.tail (Has.tail (Has.tail Has.head)))) | exact Has.tail (Has.tail (Has.tail (Has.tail (Has.tail (Has.tail Has.head)))))) rfl ?_
    refine RW.move rfl rfl ?_
    refine RW.lenSl Try.underlying24 rfl rfl ?_
    refine RW.geq rfl rfl rfl ?_
    refine RW.nil (EX.seq ?_)
    -- mq: cond
    first | refine CW.condD rfl (fun h2 => ?_) (fun h2 => ?_) | refine CW.cond rfl (fun h2 => ?_) (fun h2 => ?_)
    · skip
      refine CW.seq (CW.region ?_)
      refine RW.move rfl rfl ?_
      -- mq: op 1: ('Op.call', ('Call.mk', ('Callee.value', ('Operand.func', '37')), ('arr', ('Operand.tmp', '15')), ('arr', '24'))) -> slot 16 ("ref.go:79")
      refine RW.call rfl ca37 rfl (fun w' hw' => Count_c w' F A n c rows (hr.ext hw'.ext (by simp)) hn hm) ?_
      refine RW.assign rfl rfl ?_
      refine RW.nil (EX.seq (CW.ret (EX.seqR ?_)))
      refine EX.fin1 Try.results24 rfl (fun wz hw => ?_)
      -- mq: done
      exact ⟨by rw [offR, if_neg (show ¬ prow < 0 from h1), if_pos (show (rows.length : Int) ≤ prow by omega), cnt_all], hw.ext⟩
    · skip
      obtain ⟨k, rfl⟩ : ∃ k : Nat, prow = k := ⟨prow.toNat, by omega⟩
      have hcap := hr.cap'
      have hc1 := cnt_le rows k
      have hc2 := cnt_le rows (k + 1)
      have hc3 := cnt_mono (rows := rows) (j := k) (k := k + 1) (by omega)
      have hcut1 := hr.cut (p := k) (q := k + 1) (by omega) (by omega)
      have hcut2 := hr.cut (p := 0) (q := k) (by omega) (by omega)
      have hs1 : sumLen ((rows.take (k + 1)).drop k) ≤ 1000000 := Nat.le_trans (sumLen_drop_le _ _) (Nat.le_trans (sumLen_take_le rows _) hm)
      have hs2 : sumLen (rows.take k) ≤ 1000000 := Nat.le_trans (sumLen_take_le rows _) hm
      refine CW.skip (EX.seq (CW.seq (CW.region ?_)))
      refine RW.move rfl rfl ?_
      refine RW.fieldB fl47x0 rfl rfl ?_
      refine RW.loadB1 sc3 rfl rfl (by first | exact Has.head | exact Has.tail Has.head | exact Has.tail (Has.tail Has.head) | exact Has.tail (Has.tail (Has.tail Has.head)) | exact Has.tail (Has.tail (Has.tail (Has.tail Has.head))) | exact Has.tail (Has.tail (Has.tail (Has.tail (Has.tail Has.head)))) | exact Has.tail (Has.tail (Has.tail (Has.tail (Has.tail (Has.tail Has.head)))))) rfl ?_
      refine RW.fieldB fl47x0 rfl rfl ?_
      refine RW.loadB1 sc3 rfl rfl (by first | exact Has.head | exact Has.tail Has.head | exact Has.tail (Has.tail Has.head) | exact Has.tail (Has.tail (Has.tail Has.head)) | exact Has.tail (Has.tail (Has.tail (Has.tail Has.head))) | exact Has.tail (Has.tail (Has.tail (Has.tail (Has.tail Has.head)))) | exact Has.tail (Has.tail (Has.tail (Has.tail (Has.tail (Has.tail Has.head)))))) rfl ?_
      refine RW.add rfl rfl rfl (wrap64 (by omega) (by omega)) ?_
      -- mq: at
      refine RW.sliceSl k (k + 1) sl24 rfl rfl (.inl ⟨_, _, rfl, rfl, rfl⟩) (.inl ⟨_, _, rfl, rfl, rfl⟩) (by omega) (by omega) ?_
      -- mq: op 7: ('Op.call', ('Call.mk', ('Callee.value', ('Operand.func', '37')), ('arr', ('Operand.tmp', '23')), ('arr', '24'))) -> slot 24 ("ref.go:81")
      refine RW.call rfl ca37 rfl (fun w' hw' => Count_c w' F _ _ _ _ (hcut1.ext hw'.ext (by simp)) (by omega) hs1) ?_
      rw [cnt_cut rows k (k + 1) (by omega)]
      refine RW.assign rfl rfl ?_
      refine RW.nil (EX.seq (CW.seq (CW.region ?_)))
      refine RW.fieldB fl47x1 rfl rfl ?_
      refine RW.loadB1 sc3 rfl rfl (by first | exact Has.head | exact Has.tail Has.head | exact Has.tail (Has.tail Has.head) | exact Has.tail (Has.tail (Has.tail Has.head)) | exact Has.tail (Has.tail (Has.tail (Has.tail Has.head))) | exact Has.tail (Has.tail (Has.tail (Has.tail (Has.tail Has.head)))) | exact Has.tail (Has.tail (Has.tail (Has.tail (Has.tail (Has.tail Has.head)))))) rfl ?_
      refine RW.assign rfl rfl ?_
      refine RW.nil (EX.seq (CW.seq ?_))
      -- mq: seq
      refine CW.join ([(0, .slice A n c), (3, .pointer (some ⟨g3, 0, none⟩)), (5, .int .i64 ((cnt rows (k + 1) - cnt rows k : Nat) : Int)), (6, .int .i64 (max 0 pcol))]) (SH w [] [blk g3 [.int .i64 (k : Int), .int .i64 pcol] 47]) ?_ ?_
      · skip
        refine CW.seq (CW.region ?_)
        refine RW.move rfl rfl ?_
        refine RW.lss rfl rfl rfl ?_
        refine RW.nil (EX.seq ?_)
        -- mq: cond
        first | refine CW.condD rfl (fun h7 => ?_) (fun h7 => ?_) | refine CW.cond rfl (fun h7 => ?_) (fun h7 => ?_)
        · skip
          refine CW.region ?_
          refine RW.assign rfl rfl ?_
          refine RW.nil ?_
          -- mq: joinend
          exact EX.jn (Sub.cons (by rfl) (Sub.cons (by rfl) (Sub.cons (by rfl) (Sub.cons (by rw [show max 0 pcol = 0 by omega]; rfl) Sub.nil)))) (fun _ h => h)
        · skip
          refine CW.skip ?_
          -- mq: joinend
          exact EX.jn (Sub.cons (by rfl) (Sub.cons (by rfl) (Sub.cons (by rfl) (Sub.cons (by rw [show max 0 pcol = pcol by omega]; rfl) Sub.nil)))) (fun _ h => h)
      · skip
        refine EX.seq (CW.seq ?_)
        -- mq: seq
        refine CW.join ([(0, .slice A n c), (3, .pointer (some ⟨g3, 0, none⟩)), (6, .int .i64 (min (max 0 pcol) ((cnt rows (k + 1) : Int) - (cnt rows k : Int))))]) (SH w [] [blk g3 [.int .i64 (k : Int), .int .i64 pcol] 47]) ?_ ?_
        · skip
          refine CW.seq (CW.region ?_)
          refine RW.move rfl rfl ?_
          refine RW.move rfl rfl ?_
          refine RW.gtr rfl rfl rfl ?_
          refine RW.nil (EX.seq ?_)
          -- mq: cond
          first | refine CW.condD rfl (fun h9 => ?_) (fun h9 => ?_) | refine CW.cond rfl (fun h9 => ?_) (fun h9 => ?_)
          · skip
            refine CW.region ?_
            refine RW.move rfl rfl ?_
            refine RW.assign rfl rfl ?_
            refine RW.nil ?_
            -- mq: joinend
            exact EX.jn (Sub.cons (by rfl) (Sub.cons (by rfl) (Sub.cons (by rw [show min (max 0 pcol) ((cnt rows (k + 1) : Int) - (cnt rows k : Int)) = ((cnt rows (k + 1) - cnt rows k : Nat) : Int) by omega]; rfl) Sub.nil))) (fun _ h => h)
          · skip
            refine CW.skip ?_
            -- mq: joinend
            exact EX.jn (Sub.cons (by rfl) (Sub.cons (by rfl) (Sub.cons (by rw [show min (max 0 pcol) ((cnt rows (k + 1) : Int) - (cnt rows k : Int)) = max 0 pcol by omega]; rfl) Sub.nil))) (fun _ h => h)
        · skip
          refine EX.seq (CW.seq (CW.region ?_))
          refine RW.move rfl rfl ?_
          refine RW.fieldB fl47x0 rfl rfl ?_
          refine RW.loadB1 sc3 rfl rfl (by first | exact Has.head | exact Has.tail Has.head | exact Has.tail (Has.tail Has.head) | exact Has.tail (Has.tail (Has.tail Has.head)) | exact Has.tail (Has.tail (Has.tail (Has.tail Has.head))) | exact Has.tail (Has.tail (Has.tail (Has.tail (Has.tail Has.head)))) | exact Has.tail (Has.tail (Has.tail (Has.tail (Has.tail (Has.tail Has.head)))))) rfl ?_
          -- mq: at
          refine RW.sliceSl 0 k sl24 rfl rfl (.inr ⟨rfl, rfl⟩) (.inl ⟨_, _, rfl, rfl, rfl⟩) (by omega) (by omega) ?_
          -- mq: op 4: ('Op.call', ('Call.mk', ('Callee.value', ('Operand.func', '37')), ('arr', ('Operand.tmp', '36')), ('arr', '24'))) -> slot 37 ("ref.go:89")
          rw [List.drop_zero] at hcut2
          refine RW.call rfl ca37 rfl (fun w' hw' => Count_c w' F _ _ _ _ (hcut2.ext hw'.ext (by simp)) (by omega) hs2) ?_
          rw [show ((cellsOf (rows.take k)).length : Int) = (cnt rows k : Int) from rfl]
          refine RW.move rfl rfl ?_
          refine RW.add rfl rfl rfl (wrap64 (by omega) (by omega)) ?_
          refine RW.assign rfl rfl ?_
          refine RW.nil (EX.seq (CW.ret ?_))
          refine EX.fin1 Try.results24 rfl (fun wz hw => ?_)
          -- mq: done
          refine ⟨?_, hw.ext⟩
          rw [offR, if_neg (show ¬ (k : Int) < 0 from h1), if_neg (show ¬ (rows.length : Int) ≤ (k : Int) by omega)]
          rfl
end Go.Proofs.Ytmdmdlfdijdhgaa.Mq
