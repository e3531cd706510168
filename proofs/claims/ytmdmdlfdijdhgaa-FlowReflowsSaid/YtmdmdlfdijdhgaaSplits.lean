/- walks: Same of rows that are alike; FlowSplits -/
import Derived.Test.YtmdmdlfdijdhgaaRef3
import Derived.Test.YtmdmdlfdijdhgaaAwake
namespace Go.Proofs.Ytmdmdlfdijdhgaa.Mq
open Go Go.RowKit Go.Proofs

theorem rowsSame_c (w : World) (F G : Nat → Prop) (A B : Option Addr) (n m c d : Nat) (rows : List RowL) (hx : RdRows w F A n c rows) (hy : RdRows w G B m d rows) (hn : n ≤ 1000000) (hm : ∀ row ∈ rows, row.1.length ≤ 1000000) :
    Calls Try.prog 13 [.slice A n c, .slice B m d].toArray w (fun e w' => e = .returned (.bool true) ∧ Ext [] w w') := by
  have hlx := hx.len
  obtain rfl : n = m := hlx.symm.trans hy.len
  refine calls (n := 42) Try.func13 rfl Try.ntmps13 rfl ?_
  refine CW.sub (H' := SH w [] []) ?_ (Sub.refl _) (fun x hx => SH.start' _ _ hx)
  refine CW.seq (CW.region ?_)
  refine RW.assign rfl rfl ?_
  refine RW.nil (EX.seq (CW.seq (CW.seq (CW.region ?_))))
  refine RW.move rfl rfl ?_
  refine RW.lenSl Try.underlying24 rfl rfl ?_
  refine RW.move rfl rfl ?_
  refine RW.lenSl Try.underlying24 rfl rfl ?_
  refine RW.neqI rfl rfl rfl ?_
  refine RW.nil (EX.seq ?_)
  -- mq: cond
  refine CW.condF rfl ((by simp)) ?_
  refine CW.skip (EX.seq (CW.seq (CW.seq (CW.region ?_))))
  refine RW.assign rfl rfl ?_
  refine RW.nil (EX.seq (CW.block ?_))
  -- mq: loop
  refine CW.loop (ι := Nat) (fun k => [(0, .slice A n c), (1, .slice B n d), (5, .int .i64 (k : Int))]) (fun _ => SH w [] []) (fun k => k ≤ n) (fun k => n - k) ?_ ?_
  · exact fun w hw => ⟨0, Nat.zero_le _, (by repeat (first | exact Sub.nil | refine Sub.cons (by rfl) ?_)), hw⟩
  · rintro k hk
    refine CW.seq (CW.seq (CW.region ?_))
    refine RW.move rfl rfl ?_
    refine RW.move rfl rfl ?_
    refine RW.lenSl Try.underlying24 rfl rfl ?_
    refine RW.lss rfl rfl rfl ?_
    refine RW.nil (EX.seq ?_)
    -- mq: cond
    first | refine CW.condD rfl (fun hlt => ?_) (fun hlt => ?_) | refine CW.cond rfl (fun hlt => ?_) (fun hlt => ?_)
    · skip
      obtain ⟨row, hrow⟩ : ∃ row, rows[k]? = some row := ⟨rows[k]'(by omega), List.getElem?_eq_getElem _⟩
      obtain ⟨ad, X, p, q, hA, _, hcell, hrd⟩ := hx.at_ hrow
      obtain ⟨bd, Y, p', q', hB, _, hcell2, hrd2⟩ := hy.at_ hrow
      have hp := hrd.len
      have hrm := hm row (List.mem_of_getElem? hrow)
      refine CW.skip (EX.seq (CW.seq (CW.block (CW.seq ?_))))
      refine CW.drawq mixed (by kernel_rfl) (fun _ hw => hw.drew) ?_
      refine DRq.cons rfl (RW.move rfl rfl RW.jn) ?_
      refine DRq.cons rfl (RW.move rfl rfl RW.jn) ?_
      refine DRq.cons rfl (RW.ixAddr (q := k) sl24 rfl rfl rfl (by first | rfl | assumption) (by omega) (by omega) RW.jn) ?_
      refine DRq.cons rfl (RW.fieldP fl45x1 rfl rfl RW.jn) ?_
      refine DRq.cons rfl (RW.load1 sc4 rfl rfl (fun w' hw' => hw'.base_cell (hcell 1 _ rfl) (by simp)) RW.jn) ?_
      refine DRq.cons rfl (RW.move rfl rfl RW.jn) ?_
      refine DRq.cons rfl (RW.move rfl rfl RW.jn) ?_
      refine DRq.cons rfl (RW.ixAddr (q := k) sl24 rfl rfl rfl (by first | rfl | assumption) (by omega) (by omega) RW.jn) ?_
      refine DRq.cons rfl (RW.fieldP fl45x1 rfl rfl RW.jn) ?_
      refine DRq.cons rfl (RW.load1 sc4 rfl rfl (fun w' hw' => hw'.base_cell (hcell2 1 _ rfl) (by simp)) RW.jn) ?_
      refine DRq.cons rfl (RW.neqB Try.underlying4 rfl rfl rfl RW.jn) ?_
      refine DRq.cons rfl (RW.move rfl rfl RW.jn) ?_
      refine DRq.cons rfl (RW.guardT rfl rfl (by simp) (RW.move rfl rfl RW.jn)) ?_
      refine DRq.cons rfl (RW.guardT rfl rfl (by simp) (RW.move rfl rfl RW.jn)) ?_
      refine DRq.cons rfl (RW.guardT rfl rfl (by simp) (RW.ixAddr (q := k) sl24 rfl rfl rfl (by first | rfl | assumption) (by omega) (by omega) RW.jn)) ?_
      refine DRq.cons rfl (RW.guardT rfl rfl (by simp) (RW.fieldP fl45x0 rfl rfl RW.jn)) ?_
      refine DRq.cons rfl (RW.guardT rfl rfl (by simp) (RW.load1 sc22 rfl rfl (fun w' hw' => hw'.base_cell (hcell 0 _ rfl) (by simp)) RW.jn)) ?_
      refine DRq.cons rfl (RW.guardT rfl rfl (by simp) (RW.move rfl rfl RW.jn)) ?_
      refine DRq.cons rfl (RW.guardT rfl rfl (by simp) (RW.move rfl rfl RW.jn)) ?_
      refine DRq.cons rfl (RW.guardT rfl rfl (by simp) (RW.ixAddr (q := k) sl24 rfl rfl rfl (by first | rfl | assumption) (by omega) (by omega) RW.jn)) ?_
      refine DRq.cons rfl (RW.guardT rfl rfl (by simp) (RW.fieldP fl45x0 rfl rfl RW.jn)) ?_
      refine DRq.cons rfl (RW.guardT rfl rfl (by simp) (RW.load1 sc22 rfl rfl (fun w' hw' => hw'.base_cell (hcell2 0 _ rfl) (by simp)) RW.jn)) ?_
      refine DRq.cons rfl (RW.guardT rfl rfl (by simp) (RW.call rfl ca16 rfl (fun w' hw' => refSame_c w' _ _ _ _ _ _ _ _ _ _ (hrd.ext hw'.ext (by simp)) (hrd2.ext hw'.ext (by simp)) (by omega)) RW.jn)) ?_
      refine DRq.cons rfl (RW.guardT rfl rfl (by simp) (RW.not_ rfl rfl RW.jn)) ?_
      refine DRq.cons rfl (RW.pickC rfl rfl (by simp) rfl RW.jn) ?_
      refine DRq.nil (EX.seq ?_)
      -- mq: cond
      refine CW.condF rfl ((by simp)) ?_
      refine CW.skip (EX.bkN (EX.seq (CW.region ?_)))
      refine RW.move rfl rfl ?_
      refine RW.add rfl rfl rfl (wrap64 (by omega) (by omega)) ?_
      refine RW.assign rfl rfl ?_
      refine RW.nil ?_
      -- mq: loopend
      exact EX.lpN (k + 1) (by omega) (by omega) (by repeat (first | exact Sub.nil | refine Sub.cons (by rfl) ?_)) (fun w' hw' => hw')
    · skip
      refine CW.exit (EX.seqE (EX.lpE (EX.bkE (EX.seq (CW.seq (CW.region ?_))))))
      refine RW.assign rfl rfl ?_
      refine RW.nil (EX.seq (CW.ret ?_))
      refine EX.fin1 Try.results13 rfl (fun wz hw => ?_)
      -- mq: done
      exact ⟨rfl, hw.ext⟩
theorem mem_sumLen : ∀ {rows : List RowL} {row : RowL}, row ∈ rows → row.1.length ≤ sumLen rows
  | r :: rows, row, h => by
    have hc : sumLen (r :: rows) = r.1.length + sumLen rows := by simp [sumLen]
    rcases List.mem_cons.1 h with rfl | h
    · omega
    · have := mem_sumLen h
      omega
theorem splitNo_c (w : World) (v : Value) (cols : Int) (hc : ¬ (2 ≤ cols ∧ cols ≤ 1000)) :
    Calls Try.prog 11 [v, .int .i64 cols].toArray w (fun e w' => e = .returned (.slice none 0 0) ∧ Ext [] w w') := by
  refine calls (n := 57) Try.func11 rfl Try.ntmps11 rfl ?_
  refine CW.sub (H' := SH w [] []) ?_ (Sub.refl _) (fun x hx => SH.start' _ _ hx)
  refine CW.seq (CW.region ?_)
  refine RW.assign rfl rfl ?_
  refine RW.nil (EX.seq (CW.seq (CW.seq (CW.region ?_))))
  refine RW.move rfl rfl ?_
  refine RW.call rfl ca30 rfl (fun w' _ => fits_c w' _) ?_
  refine RW.not_ rfl rfl ?_
  refine RW.nil (EX.seq ?_)
  -- mq: cond
  refine CW.condT rfl ((by simp; omega)) ?_
  refine CW.seq (CW.region ?_)
  refine RW.assign rfl rfl ?_
  refine RW.nil (EX.seq (CW.ret (EX.seqR ?_)))
  refine EX.fin1 Try.results11 rfl (fun wz hw => ?_)
  -- mq: done
  exact ⟨rfl, hw.ext⟩
theorem splits_c (w : World) (F : Nat → Prop) (A : Option Addr) (n c : Nat) (l : List CellV) (hr : Rd ECell w F A n c l) (cols : Int) :
    Calls Try.prog 3 [.slice A n c, .int .i64 cols].toArray w (fun e w' => e = .returned (.bool true) ∧ Ext [] w w') := by
  have hl := hr.len
  refine calls (n := 28) Try.func3 rfl Try.ntmps3 rfl ?_
  refine CW.sub (H' := SH w [] []) ?_ (Sub.refl _) (fun x hx => SH.start' _ _ hx)
  refine CW.seq (CW.region ?_)
  refine RW.assign rfl rfl ?_
  refine RW.nil (EX.seq (CW.seq (CW.seq (CW.region ?_))))
  refine RW.move rfl rfl ?_
  refine RW.lenSl Try.underlying22 rfl rfl ?_
  refine RW.gtr rfl rfl rfl ?_
  refine RW.move rfl rfl ?_
  -- mq: guard slot 9
  refine RW.casesB 9 rfl (fun h1 => ?_) (fun h1 => ?_)
  · skip
    have h1p := of_decide_eq_true h1
    refine RW.guardF rfl rfl rfl h1 ?_
    refine RW.guardF rfl rfl rfl h1 ?_
    refine RW.pickB rfl rfl h1 rfl ?_
    refine RW.nil (EX.seq ?_)
    -- mq: cond
    refine CW.condT rfl (rfl) ?_
    refine CW.seq (CW.region ?_)
    refine RW.call rfl ca10 rfl (fun w' _ => awake_c w') ?_
    refine RW.assign rfl rfl ?_
    refine RW.nil (EX.seq (CW.ret (EX.seqR ?_)))
    refine EX.fin1 Try.results3 rfl (fun wz hw => ?_)
    -- mq: done
    exact ⟨rfl, hw.ext⟩
  · skip
    have h1p := of_decide_eq_false h1
    refine RW.guardT rfl rfl h1 ?_
    -- mq: op 4: ('Op.call', ('Call.mk', ('Callee.value', ('Operand.func', '10')), ('arr',), ('arr',))) -> slot 10 ("law.go:53")
    refine RW.call rfl ca10 rfl (fun w' _ => awake_c w') ?_
    refine RW.guardT rfl rfl h1 ?_
    refine RW.not_ rfl rfl ?_
    refine RW.pickC rfl rfl h1 rfl ?_
    refine RW.nil (EX.seq ?_)
    -- mq: cond
    refine CW.condF rfl (rfl) ?_
    have hn : n ≤ 400 := by omega
    refine CW.skip (EX.seq (CW.seq (CW.region ?_)))
    refine RW.move rfl rfl ?_
    refine RW.move rfl rfl ?_
    -- mq: op 2: ('Op.call', ('Call.mk', ('Callee.value', ('Operand.func', '11')), ('arr', ('Operand.tmp', '14'), ('Operand.tmp', '15')), ('arr', '22', '3'))) -> slot 16 ("law.go:56")
    by_cases hcols : 2 ≤ cols ∧ cols ≤ 1000
    · skip
      obtain ⟨k, rfl⟩ : ∃ k : Nat, cols = k := ⟨cols.toNat, by omega⟩
      have hsz := splitF_sum l k (by omega) (by omega) (by omega)
      refine RW.callA (R := fun w0 => IsRows (splitF l k) w0) rfl ca11 rfl (fun w' hw' => (Split_c w' _ A n c l k (hr.ext hw'.ext (by simp)) (by omega) (by omega) (by omega)).mono (fun e w'' h => h.toA)) ?_
      rintro w0 w1 v hw0 he01 hw1 hlt5 ⟨A3, n3, c3, rfl, hrd3⟩
      have hm3 := hrd3.len
      refine RW.assign rfl rfl ?_
      refine RW.nil (EX.seq (CW.seq (CW.seq (CW.region ?_))))
      refine RW.move rfl rfl ?_
      -- mq: op 1: ('Op.call', ('Call.mk', ('Callee.value', ('Operand.func', '12')), ('arr', ('Operand.tmp', '17')), ('arr', '3'))) -> slot 18 ("law.go:57")
      refine RW.call rfl ca12 rfl (fun w' _ => Fits_c w' _) ?_
      refine RW.not_ rfl rfl ?_
      refine RW.nil (EX.seq ?_)
      -- mq: cond
      refine CW.condF rfl ((by simp; omega)) ?_
      refine CW.skip (EX.seq (CW.seq (CW.region ?_)))
      refine RW.move rfl rfl ?_
      refine RW.move rfl rfl ?_
      refine RW.move rfl rfl ?_
      -- mq: op 3: ('Op.call', ('Call.mk', ('Callee.value', ('Operand.func', '14')), ('arr', ('Operand.tmp', '24'), ('Operand.tmp', '25')), ('arr', '22', '3'))) -> slot 26 ("law.go:60")
      have hr1 := (hr.ext0 hw0.ext).ext0 he01
      refine RW.callA (R := fun w0 => IsRows (splitF l k) w0) rfl ca14 rfl (fun w' hw' => (refSplit_c w' _ A n c l k (hr1.ext hw'.ext (by simp [feet])) (by omega) (by omega) (by omega)).mono (fun e w'' h => h.toA)) ?_
      rintro w2 w3 v hw2 he23 hw3 hlt6 ⟨A4, n4, c4, rfl, hrd4⟩
      have hrd3' := (hrd3.ext hw2.ext (by simp [feet])).ext he23 (by simp)
      -- mq: op 4: ('Op.call', ('Call.mk', ('Callee.value', ('Operand.func', '13')), ('arr', ('Operand.tmp', '23'), ('Operand.tmp', '26')), ('arr', '24', '24'))) -> slot 27 ("law.go:60")
      refine RW.call rfl ca13 rfl (fun w' hw' => rowsSame_c w' _ _ _ _ _ _ _ _ (splitF l k) (hrd3'.ext hw'.ext (by simp [feet])) (hrd4.ext hw'.ext (by simp [feet])) (by omega) (fun row hrow => Nat.le_trans (mem_sumLen hrow) (by omega))) ?_
      refine RW.assign rfl rfl ?_
      refine RW.nil (EX.seq (CW.ret ?_))
      refine EX.fin1 Try.results3 rfl (fun wz hw => ?_)
      -- mq: done
      exact ⟨rfl, (((hw0.ext.trans0 he01).trans0 hw2.ext).trans0 he23).trans0 hw.ext⟩
    · skip
      refine RW.call rfl ca11 rfl (fun w' _ => splitNo_c w' _ cols hcols) ?_
      refine RW.assign rfl rfl ?_
      refine RW.nil (EX.seq (CW.seq (CW.seq (CW.region ?_))))
      refine RW.move rfl rfl ?_
      -- mq: op 1: ('Op.call', ('Call.mk', ('Callee.value', ('Operand.func', '12')), ('arr', ('Operand.tmp', '17')), ('arr', '3'))) -> slot 18 ("law.go:57")
      refine RW.call rfl ca12 rfl (fun w' _ => Fits_c w' _) ?_
      refine RW.not_ rfl rfl ?_
      refine RW.nil (EX.seq ?_)
      -- mq: cond
      refine CW.condT rfl ((by simp; omega)) ?_
      refine CW.seq (CW.region ?_)
      refine RW.move rfl rfl ?_
      refine RW.lenSl Try.underlying24 rfl rfl ?_
      refine RW.eqlI rfl rfl rfl ?_
      refine RW.assign rfl rfl ?_
      refine RW.nil (EX.seq (CW.ret (EX.seqR ?_)))
      refine EX.fin1 Try.results3 rfl (fun wz hw => ?_)
      -- mq: done
      exact ⟨rfl, hw.ext⟩
end Go.Proofs.Ytmdmdlfdijdhgaa.Mq
