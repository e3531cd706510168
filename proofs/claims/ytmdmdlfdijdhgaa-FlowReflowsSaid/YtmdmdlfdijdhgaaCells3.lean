/- walks: Used of cells; Used, Same, Mend of the reference -/
import Derived.Test.YtmdmdlfdijdhgaaCells2
namespace Go.Proofs.Ytmdmdlfdijdhgaa.Mq
open Go Go.RowKit Go.Proofs

theorem Used_c (w : World) (F : Nat → Prop) (A : Option Addr) (n c : Nat) (row : List CellV) (hr : Rd ECell w F A n c row) (hn : n ≤ 1000000) :
    Calls Try.prog 34 [.slice A n c].toArray w (fun e w' => e = .returned (.int .i64 (usedL row : Int)) ∧ Ext [] w w') := by
  have hl := hr.len
  refine calls (n := 20) Try.func34 rfl Try.ntmps34 rfl ?_
  refine CW.sub (H' := SH w [] []) ?_ (Sub.refl _) (fun x hx => SH.start' _ _ hx)
  refine CW.seq (CW.region ?_)
  refine RW.assign rfl rfl ?_
  refine RW.nil (EX.seq (CW.seq (CW.region ?_)))
  refine RW.move rfl rfl ?_
  refine RW.lenSl Try.underlying22 rfl rfl ?_
  refine RW.assign rfl rfl ?_
  refine RW.nil (EX.seq (CW.seq (CW.block ?_)))
  -- mq: loop
  refine CW.loop (ι := Nat) (fun k => [(0, .slice A n c), (3, .int .i64 (k : Int))]) (fun _ => SH w [] []) (fun k => k ≤ n ∧ usedL row = usedL (row.take k)) (fun k => k) ?_ ?_
  · exact fun w hw => ⟨n, ⟨Nat.le_refl _, by rw [← hl, List.take_length]⟩, (by repeat (first | exact Sub.nil | refine Sub.cons (by rfl) ?_)), hw⟩
  · rintro k ⟨hk, hu⟩
    refine CW.seq (CW.seq (CW.region ?_))
    refine RW.move rfl rfl ?_
    refine RW.gtr rfl rfl rfl ?_
    refine RW.move rfl rfl ?_
    -- mq: guard slot 8
    refine RW.casesB 8 rfl (fun h1 => ?_) (fun h1 => ?_)
    · skip
      have h1p := of_decide_eq_true h1
      obtain ⟨x, hx⟩ : ∃ x, row[k - 1]? = some x := ⟨row[k - 1]'(by omega), List.getElem?_eq_getElem _⟩
      obtain ⟨ad, hA, _, hcell⟩ := hr.at_ hx
      have hsn : usedL (row.take k) = if x.r = 0 then usedL (row.take (k - 1)) else k := by
        have e : row.take k = row.take (k - 1) ++ [x] := by
          rw [show k = k - 1 + 1 by omega, List.take_add_one, hx]; rfl
        rw [e, usedL_snoc, List.length_take, Nat.min_eq_left (by omega), show k - 1 + 1 = k by omega]
      refine RW.guardT rfl rfl h1 ?_
      refine RW.move rfl rfl ?_
      refine RW.guardT rfl rfl h1 ?_
      refine RW.move rfl rfl ?_
      refine RW.guardT rfl rfl h1 ?_
      refine RW.sub_ rfl rfl rfl (wrap64 (by omega) (by omega)) ?_
      refine RW.guardT rfl rfl h1 ?_
      refine RW.ixAddr (q := k - 1) sl22 rfl rfl rfl (by first | rfl | assumption) (by omega) (by omega) ?_
      refine RW.guardT rfl rfl h1 ?_
      refine RW.fieldP fl34x0 rfl rfl ?_
      refine RW.guardT rfl rfl h1 ?_
      refine RW.load1 sc21 rfl rfl (fun w' hw' => hw'.base_cell (hcell 0 _ rfl) (by simp)) ?_
      refine RW.guardT rfl rfl h1 ?_
      refine RW.eqlI rfl rfl rfl ?_
      refine RW.pickB rfl rfl h1 rfl ?_
      refine RW.nil (EX.seq ?_)
      -- mq: cond
      first | refine CW.condD rfl (fun hz => ?_) (fun hz => ?_) | refine CW.cond rfl (fun hz => ?_) (fun hz => ?_)
      · skip
        refine CW.skip (EX.seq (CW.block (CW.region ?_)))
        refine RW.move rfl rfl ?_
        refine RW.sub_ rfl rfl rfl (wrap64 (by omega) (by omega)) ?_
        refine RW.assign rfl rfl ?_
        refine RW.nil (EX.bkN ?_)
        -- mq: loopend
        refine EX.lpN (k - 1) ⟨by omega, by rw [hu, hsn, if_pos hz]⟩ (by omega) (Sub.cons (by rfl) (Sub.cons (by simp [look]; omega) Sub.nil)) (fun w' hw' => hw')
      · skip
        refine CW.exit (EX.seqE (EX.lpE (EX.bkE (EX.seq (CW.seq (CW.region ?_))))))
        refine RW.move rfl rfl ?_
        refine RW.assign rfl rfl ?_
        refine RW.nil (EX.seq (CW.ret ?_))
        refine EX.fin1 Try.results34 rfl (fun wz hw => ?_)
        -- mq: done
        exact ⟨by rw [hu, hsn, if_neg hz], hw.ext⟩
    · skip
      have h1p := of_decide_eq_false h1
      refine RW.guardF rfl rfl rfl h1 ?_
      refine RW.guardF rfl rfl rfl h1 ?_
      refine RW.guardF rfl rfl rfl h1 ?_
      refine RW.guardF rfl rfl rfl h1 ?_
      refine RW.guardF rfl rfl rfl h1 ?_
      refine RW.guardF rfl rfl rfl h1 ?_
      refine RW.guardF rfl rfl rfl h1 ?_
      refine RW.pickC rfl rfl h1 rfl ?_
      refine RW.nil (EX.seq ?_)
      -- mq: cond
      refine CW.condF rfl (rfl) ?_
      refine CW.exit (EX.seqE (EX.lpE (EX.bkE (EX.seq (CW.seq (CW.region ?_))))))
      refine RW.move rfl rfl ?_
      refine RW.assign rfl rfl ?_
      refine RW.nil (EX.seq (CW.ret ?_))
      refine EX.fin1 Try.results34 rfl (fun wz hw => ?_)
      -- mq: done
      have hk0 : k = 0 := by omega
      subst hk0
      exact ⟨by rw [hu]; rfl, hw.ext⟩
theorem refUsed_c (w : World) (F : Nat → Prop) (A : Option Addr) (n c : Nat) (row : List CellV) (hr : Rd ECell w F A n c row) (hn : n ≤ 1000000) :
    Calls Try.prog 18 [.slice A n c].toArray w (fun e w' => e = .returned (.int .i64 (usedL row : Int)) ∧ Ext [] w w') := by
  have hl := hr.len
  refine calls (n := 20) Try.func18 rfl Try.ntmps18 rfl ?_
  refine CW.sub (H' := SH w [] []) ?_ (Sub.refl _) (fun x hx => SH.start' _ _ hx)
  refine CW.seq (CW.region ?_)
  refine RW.assign rfl rfl ?_
  refine RW.nil (EX.seq (CW.seq (CW.region ?_)))
  refine RW.assign rfl rfl ?_
  refine RW.nil (EX.seq (CW.seq (CW.seq (CW.region ?_))))
  refine RW.assign rfl rfl ?_
  refine RW.nil (EX.seq (CW.block ?_))
  -- mq: loop
  refine CW.loop (ι := Nat) (fun k => [(0, .slice A n c), (3, .int .i64 (usedL (row.take k) : Int)), (4, .int .i64 (k : Int))]) (fun _ => SH w [] []) (fun k => k ≤ n) (fun k => n - k) ?_ ?_
  · exact fun w hw => ⟨0, Nat.zero_le _, (by repeat (first | exact Sub.nil | refine Sub.cons (by rfl) ?_)), hw⟩
  · rintro k hk
    refine CW.seq (CW.seq (CW.region ?_))
    refine RW.move rfl rfl ?_
    refine RW.move rfl rfl ?_
    refine RW.lenSl Try.underlying22 rfl rfl ?_
    refine RW.lss rfl rfl rfl ?_
    refine RW.nil (EX.seq ?_)
    -- mq: cond
    first | refine CW.condD rfl (fun hlt => ?_) (fun hlt => ?_) | refine CW.cond rfl (fun hlt => ?_) (fun hlt => ?_)
    · skip
      obtain ⟨x, hx⟩ : ∃ x, row[k]? = some x := ⟨row[k]'(by omega), List.getElem?_eq_getElem _⟩
      obtain ⟨ad, hA, _, hcell⟩ := hr.at_ hx
      have hsn : usedL (row.take (k + 1)) = if x.r = 0 then usedL (row.take k) else k + 1 := by
        rw [List.take_add_one, hx, Option.toList_some, usedL_snoc, List.length_take, Nat.min_eq_left (by omega)]
      refine CW.skip (EX.seq (CW.seq (CW.block (CW.seq (CW.region ?_)))))
      refine RW.move rfl rfl ?_
      refine RW.move rfl rfl ?_
      refine RW.ixAddr sl22 rfl rfl rfl (by first | rfl | assumption) (by rfl) (by omega) ?_
      refine RW.fieldP fl34x0 rfl rfl ?_
      refine RW.load1 sc21 rfl rfl (fun w' hw' => hw'.base_cell (hcell 0 _ rfl) (by simp)) ?_
      refine RW.neqI rfl rfl rfl ?_
      refine RW.nil (EX.seq ?_)
      -- mq: cond
      first | refine CW.condD rfl (fun hz => ?_) (fun hz => ?_) | refine CW.cond rfl (fun hz => ?_) (fun hz => ?_)
      · skip
        refine CW.region ?_
        refine RW.move rfl rfl ?_
        refine RW.add rfl rfl rfl (wrap64 (by omega) (by omega)) ?_
        refine RW.assign rfl rfl ?_
        refine RW.nil (EX.bkN (EX.seq (CW.region ?_)))
        refine RW.move rfl rfl ?_
        refine RW.add rfl rfl rfl (wrap64 (by omega) (by omega)) ?_
        refine RW.assign rfl rfl ?_
        refine RW.nil ?_
        -- mq: loopend
        refine EX.lpN (k + 1) (by omega) (by omega) (Sub.cons (by rfl) (Sub.cons (by rw [hsn, if_neg hz]; rfl) (Sub.cons (by rfl) Sub.nil))) (fun w' hw' => hw')
      · skip
        refine CW.skip (EX.bkN (EX.seq (CW.region ?_)))
        refine RW.move rfl rfl ?_
        refine RW.add rfl rfl rfl (wrap64 (by omega) (by omega)) ?_
        refine RW.assign rfl rfl ?_
        refine RW.nil ?_
        -- mq: loopend
        refine EX.lpN (k + 1) (by omega) (by omega) (Sub.cons (by rfl) (Sub.cons (by rw [hsn, if_pos (by omega)]; rfl) (Sub.cons (by rfl) Sub.nil))) (fun w' hw' => hw')
    · skip
      refine CW.exit (EX.seqE (EX.lpE (EX.bkE (EX.seq (CW.seq (CW.region ?_))))))
      refine RW.move rfl rfl ?_
      refine RW.assign rfl rfl ?_
      refine RW.nil (EX.seq (CW.ret ?_))
      refine EX.fin1 Try.results18 rfl (fun wz hw => ?_)
      -- mq: done
      have hkn : k = n := by omega
      subst hkn
      exact ⟨by rw [List.take_of_length_le (by omega)], hw.ext⟩
theorem refSame_c (w : World) (F G : Nat → Prop) (A B : Option Addr) (n c m d : Nat) (x y : List CellV) (hx : Rd ECell w F A n c x) (hy : Rd ECell w G B m d y) (hn : n ≤ 1000000) :
    Calls Try.prog 16 [.slice A n c, .slice B m d].toArray w (fun e w' => e = .returned (.bool (decide (x = y))) ∧ Ext [] w w') := by
  have hlx := hx.len
  have hly := hy.len
  refine calls (n := 26) Try.func16 rfl Try.ntmps16 rfl ?_
  refine CW.sub (H' := SH w [] []) ?_ (Sub.refl _) (fun x hx => SH.start' _ _ hx)
  refine CW.seq (CW.region ?_)
  refine RW.assign rfl rfl ?_
  refine RW.nil (EX.seq (CW.seq (CW.seq (CW.region ?_))))
  refine RW.move rfl rfl ?_
  refine RW.lenSl Try.underlying22 rfl rfl ?_
  refine RW.move rfl rfl ?_
  refine RW.lenSl Try.underlying22 rfl rfl ?_
  refine RW.neqI rfl rfl rfl ?_
  refine RW.nil (EX.seq ?_)
  -- mq: cond
  first | refine CW.condD rfl (fun hne => ?_) (fun hne => ?_) | refine CW.cond rfl (fun hne => ?_) (fun hne => ?_)
  · skip
    refine CW.seq (CW.region ?_)
    refine RW.assign rfl rfl ?_
    refine RW.nil (EX.seq (CW.ret (EX.seqR ?_)))
    refine EX.fin1 Try.results16 rfl (fun wz hw => ?_)
    -- mq: done
    exact ⟨by rw [decide_eq_false (fun e => hne (by subst e; omega))], hw.ext⟩
  · skip
    refine CW.skip (EX.seq (CW.seq (CW.seq (CW.region ?_))))
    refine RW.assign rfl rfl ?_
    refine RW.nil (EX.seq (CW.block ?_))
    -- mq: loop
    refine CW.loop (ι := Nat) (fun k => [(0, .slice A n c), (1, .slice B m d), (5, .int .i64 (k : Int))]) (fun _ => SH w [] []) (fun k => k ≤ n ∧ x.take k = y.take k) (fun k => n - k) ?_ ?_
    · exact fun w hw => ⟨0, ⟨Nat.zero_le _, rfl⟩, (by repeat (first | exact Sub.nil | refine Sub.cons (by rfl) ?_)), hw⟩
    · rintro k ⟨hk, he⟩
      refine CW.seq (CW.seq (CW.region ?_))
      refine RW.move rfl rfl ?_
      refine RW.move rfl rfl ?_
      refine RW.lenSl Try.underlying22 rfl rfl ?_
      refine RW.lss rfl rfl rfl ?_
      refine RW.nil (EX.seq ?_)
      -- mq: cond
      first | refine CW.condD rfl (fun hlt => ?_) (fun hlt => ?_) | refine CW.cond rfl (fun hlt => ?_) (fun hlt => ?_)
      · skip
        obtain ⟨a, ha⟩ : ∃ a, x[k]? = some a := ⟨x[k]'(by omega), List.getElem?_eq_getElem _⟩
        obtain ⟨b, hb⟩ : ∃ b, y[k]? = some b := ⟨y[k]'(by omega), List.getElem?_eq_getElem _⟩
        obtain ⟨ad, hA, _, hca⟩ := hx.at_ ha
        obtain ⟨bd, hB, _, hcb⟩ := hy.at_ hb
        refine CW.skip (EX.seq (CW.seq (CW.block (CW.seq ?_))))
        refine CW.drawq mixed (by kernel_rfl) (fun _ hw => hw.drew) ?_
        refine DRq.cons rfl (RW.move rfl rfl RW.jn) ?_
        refine DRq.cons rfl (RW.move rfl rfl RW.jn) ?_
        refine DRq.cons rfl (RW.ixAddr sl22 rfl rfl rfl (by first | rfl | assumption) (by rfl) (by omega) RW.jn) ?_
        refine DRq.cons rfl (RW.loadA ag34 rfl rfl (rfl) (fun w' hw' j u hj => hw'.base_cell (hca j u hj) (by simp)) RW.jn) ?_
        refine DRq.cons rfl (RW.move rfl rfl RW.jn) ?_
        refine DRq.cons rfl (RW.move rfl rfl RW.jn) ?_
        refine DRq.cons rfl (RW.ixAddr sl22 rfl rfl rfl (by first | rfl | assumption) (by rfl) (by omega) RW.jn) ?_
        refine DRq.cons rfl (RW.loadA ag34 rfl rfl (rfl) (fun w' hw' j u hj => hw'.base_cell (hcb j u hj) (by simp)) RW.jn) ?_
        refine DRq.cons rfl (RW.neqSt eq34 rfl rfl rfl (by kernel_rfl) (eqv_cell a b) RW.jn) ?_
        refine DRq.nil (EX.seq ?_)
        -- mq: cond
        first | refine CW.condD rfl (fun hab => ?_) (fun hab => ?_) | refine CW.cond rfl (fun hab => ?_) (fun hab => ?_)
        · skip
          refine CW.seq (CW.region ?_)
          refine RW.assign rfl rfl ?_
          refine RW.nil (EX.seq (CW.ret (EX.bkR (EX.seqR (EX.lpR (EX.bkR (EX.seqR ?_)))))))
          refine EX.fin1 Try.results16 rfl (fun wz hw => ?_)
          -- mq: done
          have hne' : a ≠ b := by simpa using hab
          exact ⟨by rw [decide_eq_false (fun e => hne' (by subst e; rw [ha] at hb; exact Option.some.inj hb))], hw.ext⟩
        · skip
          refine CW.skip (EX.bkN (EX.seq (CW.region ?_)))
          refine RW.move rfl rfl ?_
          refine RW.add rfl rfl rfl (wrap64 (by omega) (by omega)) ?_
          refine RW.assign rfl rfl ?_
          refine RW.nil ?_
          -- mq: loopend
          have hab' : a = b := by simpa using hab
          refine EX.lpN (k + 1) ⟨by omega, by rw [List.take_add_one, List.take_add_one, he, ha, hb, hab']⟩ (by omega) (by repeat (first | exact Sub.nil | refine Sub.cons (by rfl) ?_)) (fun w' hw' => hw')
      · skip
        refine CW.exit (EX.seqE (EX.lpE (EX.bkE (EX.seq (CW.seq (CW.region ?_))))))
        refine RW.assign rfl rfl ?_
        refine RW.nil (EX.seq (CW.ret ?_))
        refine EX.fin1 Try.results16 rfl (fun wz hw => ?_)
        -- mq: done
        have hkn : k = n := by omega
        have hxy : x = y := by
          rw [List.take_of_length_le (by omega), List.take_of_length_le (by omega)] at he
          exact he
        exact ⟨by rw [decide_eq_true hxy], hw.ext⟩
theorem fits_c (w : World) (cols : Int) : Calls Try.prog 30 [.int .i64 cols].toArray w (fun e w' => e = .returned (.bool (decide (2 ≤ cols) && decide (cols ≤ 1000))) ∧ Ext [] w w') := by
  refine calls (n := 9) Try.func30 rfl Try.ntmps30 rfl ?_
  refine CW.sub (H' := SH w [] []) ?_ (Sub.refl _) (fun x hx => SH.start' _ _ hx)
  refine CW.seq (CW.region ?_)
  refine RW.assign rfl rfl ?_
  refine RW.nil (EX.seq (CW.seq (CW.region ?_)))
  refine RW.move rfl rfl ?_
  refine RW.geq rfl rfl rfl ?_
  refine RW.move rfl rfl ?_
  -- mq: guard slot 5
  refine RW.casesB 5 rfl (fun h => ?_) (fun h => ?_)
  · skip
    have hp := of_decide_eq_true h
    refine RW.guardT rfl rfl h ?_
    refine RW.move rfl rfl ?_
    refine RW.guardT rfl rfl h ?_
    refine RW.leq rfl rfl rfl ?_
    refine RW.pickB rfl rfl h rfl ?_
    refine RW.assign rfl rfl ?_
    refine RW.nil (EX.seq (CW.ret ?_))
    refine EX.fin1 Try.results30 rfl (fun wz hw => ?_)
    -- mq: done
    exact ⟨by simp [hp], hw.ext⟩
  · skip
    have hp := of_decide_eq_false h
    refine RW.guardF rfl rfl rfl h ?_
    refine RW.guardF rfl rfl rfl h ?_
    refine RW.pickC rfl rfl h rfl ?_
    refine RW.assign rfl rfl ?_
    refine RW.nil (EX.seq (CW.ret ?_))
    refine EX.fin1 Try.results30 rfl (fun wz hw => ?_)
    -- mq: done
    exact ⟨by simp [hp], hw.ext⟩
theorem Fits_c (w : World) (cols : Int) : Calls Try.prog 12 [.int .i64 cols].toArray w (fun e w' => e = .returned (.bool (decide (2 ≤ cols) && decide (cols ≤ 1000))) ∧ Ext [] w w') := by
  refine calls (n := 9) Try.func12 rfl Try.ntmps12 rfl ?_
  refine CW.sub (H' := SH w [] []) ?_ (Sub.refl _) (fun x hx => SH.start' _ _ hx)
  refine CW.seq (CW.region ?_)
  refine RW.assign rfl rfl ?_
  refine RW.nil (EX.seq (CW.seq (CW.region ?_)))
  refine RW.move rfl rfl ?_
  refine RW.geq rfl rfl rfl ?_
  refine RW.move rfl rfl ?_
  -- mq: guard slot 5
  refine RW.casesB 5 rfl (fun h => ?_) (fun h => ?_)
  · skip
    have hp := of_decide_eq_true h
    refine RW.guardT rfl rfl h ?_
    refine RW.move rfl rfl ?_
    refine RW.guardT rfl rfl h ?_
    refine RW.leq rfl rfl rfl ?_
    refine RW.pickB rfl rfl h rfl ?_
    refine RW.assign rfl rfl ?_
    refine RW.nil (EX.seq (CW.ret ?_))
    refine EX.fin1 Try.results12 rfl (fun wz hw => ?_)
    -- mq: done
    exact ⟨by simp [hp], hw.ext⟩
  · skip
    have hp := of_decide_eq_false h
    refine RW.guardF rfl rfl rfl h ?_
    refine RW.guardF rfl rfl rfl h ?_
    refine RW.pickC rfl rfl h rfl ?_
    refine RW.assign rfl rfl ?_
    refine RW.nil (EX.seq (CW.ret ?_))
    refine EX.fin1 Try.results12 rfl (fun wz hw => ?_)
    -- mq: done
    exact ⟨by simp [hp], hw.ext⟩
end Go.Proofs.Ytmdmdlfdijdhgaa.Mq
