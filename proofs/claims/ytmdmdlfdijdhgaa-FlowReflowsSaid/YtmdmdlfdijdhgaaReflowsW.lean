/- walk of FlowReflows -/
import Derived.Test.YtmdmdlfdijdhgaaReflow6
import Derived.Test.YtmdmdlfdijdhgaaTwiceW
import Derived.Test.YtmdmdlfdijdhgaaOpen
namespace Go.Proofs.Ytmdmdlfdijdhgaa.Mq
open Go Go.RowKit Go.Proofs Go.ChangeShapes Go.WideShapes Go.Deep

theorem refReflowNo_c (w : World) (A B : Option Addr) (n c m d : Nat) (cols : Int) (hc : ¬ (2 ≤ cols ∧ cols ≤ 1000)) :
    Calls Try.prog 28 [.slice A n c, .int .i64 cols, .slice B m d].toArray w (fun e w' => e = .returned (.tuple #[.slice A n c, .slice B m d]) ∧ Ext [] w w') := by
  refine calls (n := 169) Try.func28 rfl Try.ntmps28 rfl ?_
  refine CW.sub (H' := SH w [] []) ?_ (Sub.refl _) (fun x hx => SH.start' _ _ hx)
  refine CW.seq (CW.region ?_)
  refine RW.assign rfl rfl ?_
  refine RW.assign rfl rfl ?_
  refine RW.nil (EX.seq (CW.seq (CW.seq ?_)))
  -- mq: region
  refine CW.region ?_
  refine RW.move rfl rfl ?_
  refine RW.call rfl ca12 rfl (fun w' _ => Fits_c w' _) ?_
  refine RW.not_ rfl rfl ?_
  refine RW.nil (EX.seq ?_)
  -- mq: cond
  refine CW.condT rfl ((by simp; omega)) ?_
  refine CW.seq (CW.region ?_)
  refine RW.move rfl rfl ?_
  refine RW.move rfl rfl ?_
  refine RW.assign rfl rfl ?_
  refine RW.assign rfl rfl ?_
  refine RW.nil (EX.seq (CW.ret (EX.seqR ?_)))
  refine EX.fin2 Try.results28 rfl rfl (fun wz hw => ?_)
  -- mq: done
  exact ⟨rfl, hw.ext⟩
theorem places29_c (w : World) (F G : Nat → Prop) (A B : Option Addr) (n m c d : Nat) (l : List PosV) (hx : Rd EPos w F A n c l) (hy : Rd EPos w G B m d l) (hn : n ≤ 40) :
    Calls Try.prog 29 [.slice A n c, .slice B m d].toArray w (fun e w' => e = .returned (.bool true) ∧ Ext [] w w') := by
  have hlx := hx.len
  obtain rfl : n = m := hlx.symm.trans hy.len
  refine calls (n := 26) Try.func29 rfl Try.ntmps29 rfl ?_
  refine CW.sub (H' := SH w [] []) ?_ (Sub.refl _) (fun x hx => SH.start' _ _ hx)
  refine CW.seq (CW.region ?_)
  refine RW.assign rfl rfl ?_
  refine RW.nil (EX.seq (CW.seq (CW.seq (CW.region ?_))))
  refine RW.move rfl rfl ?_
  refine RW.lenSl Try.underlying51 rfl rfl ?_
  refine RW.move rfl rfl ?_
  refine RW.lenSl Try.underlying51 rfl rfl ?_
  refine RW.neqI rfl rfl rfl ?_
  refine RW.nil (EX.seq ?_)
  -- mq: cond
  refine CW.condF rfl ((by simp)) ?_
  refine CW.skip (EX.seq (CW.seq (CW.seq (CW.region ?_))))
  refine RW.assign rfl rfl ?_
  refine RW.nil (EX.seq (CW.block ?_))
  -- mq: loop
  refine CW.loop (ι := Nat) (fun k => [(0, .slice A n c), (1, .slice B n d), (5, .int .i64 (k : Int))]) (fun _ => SH w [] []) (fun k => k ≤ n) (fun k => n - k) ?_ ?_
  · exact fun w hw => ⟨0, Nat.zero_le _, (by repeat (first | exact Sub.nil | refine Sub.cons (by rfl) ?_)), hw⟩
  · rintro k hk
    refine CW.seq (CW.seq (CW.region ?_))
    refine RW.move rfl rfl ?_
    refine RW.move rfl rfl ?_
    refine RW.lenSl Try.underlying51 rfl rfl ?_
    refine RW.lss rfl rfl rfl ?_
    refine RW.nil (EX.seq ?_)
    -- mq: cond
    first | refine CW.condD rfl (fun hlt => ?_) (fun hlt => ?_) | refine CW.cond rfl (fun hlt => ?_) (fun hlt => ?_)
    · skip
      obtain ⟨p, hp⟩ : ∃ p, l[k]? = some p := ⟨l[k]'(by omega), List.getElem?_eq_getElem _⟩
      obtain ⟨ad, hA, _, hcell⟩ := hx.at_ hp
      obtain ⟨bd, hB, _, hcell2⟩ := hy.at_ hp
      refine CW.skip (EX.seq (CW.seq (CW.block (CW.seq ?_))))
      refine CW.drawq mixed (by kernel_rfl) (fun _ hw => hw.drew) ?_
      refine DRq.cons rfl (RW.move rfl rfl RW.jn) ?_
      refine DRq.cons rfl (RW.move rfl rfl RW.jn) ?_
      refine DRq.cons rfl (RW.ixAddr (q := k) sl51 rfl rfl rfl (by first | rfl | assumption) (by omega) (by omega) RW.jn) ?_
      refine DRq.cons rfl (RW.loadA ag47 rfl rfl (rfl) (fun w' hw' j u hj => hw'.base_cell (hcell j u hj) (by simp)) RW.jn) ?_
      refine DRq.cons rfl (RW.move rfl rfl RW.jn) ?_
      refine DRq.cons rfl (RW.move rfl rfl RW.jn) ?_
      refine DRq.cons rfl (RW.ixAddr (q := k) sl51 rfl rfl rfl (by first | rfl | assumption) (by omega) (by omega) RW.jn) ?_
      refine DRq.cons rfl (RW.loadA ag47 rfl rfl (rfl) (fun w' hw' j u hj => hw'.base_cell (hcell2 j u hj) (by simp)) RW.jn) ?_
      refine DRq.cons rfl (RW.neqSt eq47 rfl rfl rfl (by kernel_rfl) (eqv_pos _ _) RW.jn) ?_
      refine DRq.nil (EX.seq ?_)
      -- mq: cond
      refine CW.condF rfl ((by simp)) ?_
      refine CW.skip (EX.bkN (EX.seq (CW.region ?_)))
      refine RW.move rfl rfl ?_
      refine RW.add rfl rfl rfl (wrap64 (by omega) (by omega)) ?_
      refine RW.assign rfl rfl ?_
      refine RW.nil ?_
      -- mq: loopend
      exact EX.lpN (k + 1) (by omega) (by omega) (by repeat (first | exact Sub.nil | refine Sub.cons (by rfl) ?_)) (fun w' hw' => hw')
    · skip
      refine CW.exit (EX.seqE (EX.lpE (EX.bkE (EX.seq (CW.seq (CW.region ?_))))))
      refine RW.assign rfl rfl ?_
      refine RW.nil (EX.seq (CW.ret ?_))
      refine EX.fin1 Try.results29 rfl (fun wz hw => ?_)
      -- mq: done
      exact ⟨rfl, hw.ext⟩
theorem reflows_c (w : World) (F G : Nat → Prop) (A B : Option Addr) (n c m d : Nat) (rows : List RowL) (hr : RdRows w F A n c rows) (hn0 : n ≤ 140737488351232) (hm0 : ∀ row ∈ rows, row.1.length ≤ 140737488351232) (cols : Int) (l : List PosV) (hl : Rd EPos w G B m d l) (hp : ∀ p ∈ l, Pos64 p) :
    Calls Try.prog 7 [.slice A n c, .int .i64 cols, .slice B m d].toArray w (fun e w' => e = .returned (.bool true) ∧ Ext [] w w') := by
  have hln := hr.len
  refine calls (n := 45) Try.func7 rfl Try.ntmps7 rfl ?_
  refine CW.sub (H' := SH w [] []) ?_ (Sub.refl _) (fun x hx => SH.start' _ _ hx)
  refine CW.seq (CW.region ?_)
  refine RW.assign rfl rfl ?_
  refine RW.nil (EX.seq (CW.seq (CW.seq (CW.region ?_))))
  refine RW.move rfl rfl ?_
  -- mq: op 1: ('Op.call', ('Call.mk', ('Callee.value', ('Operand.func', '19')), ('arr', ('Operand.tmp', '11')), ('arr', '24'))) -> slot 12 ("law.go:73")
  refine RW.call rfl ca19 rfl (fun w' hw' => Great_c w' _ A n c rows (hr.ext hw'.ext (by simp)) hn0 hm0) ?_
  refine RW.move rfl rfl ?_
  -- mq: guard slot 13
  refine RW.casesB 13 rfl (fun h1 => ?_) (fun h1 => ?_)
  · skip
    refine RW.guardF rfl rfl rfl h1 ?_
    refine RW.guardF rfl rfl rfl h1 ?_
    refine RW.guardF rfl rfl rfl h1 ?_
    refine RW.pickB rfl rfl h1 rfl ?_
    refine RW.move rfl rfl ?_
    refine RW.guardF rfl rfl rfl rfl ?_
    refine RW.guardF rfl rfl rfl rfl ?_
    refine RW.pickB rfl rfl rfl rfl ?_
    refine RW.nil (EX.seq ?_)
    -- mq: cond
    refine CW.condT rfl (rfl) ?_
    refine CW.seq (CW.region ?_)
    refine RW.call rfl ca10 rfl (fun w' _ => awake_c w') ?_
    refine RW.assign rfl rfl ?_
    refine RW.nil (EX.seq (CW.ret (EX.seqR ?_)))
    refine EX.fin1 Try.results7 rfl (fun wz hw => ?_)
    -- mq: done
    exact ⟨rfl, hw.ext⟩
  · skip
    refine RW.guardT rfl rfl h1 ?_
    refine RW.move rfl rfl ?_
    refine RW.guardT rfl rfl h1 ?_
    refine RW.lenSl Try.underlying51 rfl rfl ?_
    refine RW.guardT rfl rfl h1 ?_
    refine RW.gtr rfl rfl rfl ?_
    refine RW.pickC rfl rfl h1 rfl ?_
    refine RW.move rfl rfl ?_
    -- mq: guard slot 18
    refine RW.casesB 18 rfl (fun h16 => ?_) (fun h16 => ?_)
    · skip
      have h16p := of_decide_eq_true h16
      refine RW.guardF rfl rfl rfl h16 ?_
      refine RW.guardF rfl rfl rfl h16 ?_
      refine RW.pickB rfl rfl h16 rfl ?_
      refine RW.nil (EX.seq ?_)
      -- mq: cond
      refine CW.condT rfl (rfl) ?_
      refine CW.seq (CW.region ?_)
      refine RW.call rfl ca10 rfl (fun w' _ => awake_c w') ?_
      refine RW.assign rfl rfl ?_
      refine RW.nil (EX.seq (CW.ret (EX.seqR ?_)))
      refine EX.fin1 Try.results7 rfl (fun wz hw => ?_)
      -- mq: done
      exact ⟨rfl, hw.ext⟩
    · skip
      have h16p := of_decide_eq_false h16
      refine RW.guardT rfl rfl h16 ?_
      -- mq: op 8: ('Op.call', ('Call.mk', ('Callee.value', ('Operand.func', '10')), ('arr',), ('arr',))) -> slot 19 ("law.go:73")
      refine RW.call rfl ca10 rfl (fun w' _ => awake_c w') ?_
      refine RW.guardT rfl rfl h16 ?_
      refine RW.not_ rfl rfl ?_
      refine RW.pickC rfl rfl h16 rfl ?_
      refine RW.nil (EX.seq ?_)
      -- mq: cond
      refine CW.condF rfl (rfl) ?_
      have hsz : n + sumLen rows ≤ 600 := by simpa using h1
      have hm : m ≤ 40 := by omega
      refine CW.skip (EX.seq (CW.seq ?_))
      -- mq: region
      refine CW.region ?_
      refine RW.move rfl rfl ?_
      refine RW.move rfl rfl ?_
      refine RW.move rfl rfl ?_
      -- mq: at
      by_cases hcols : 2 ≤ cols ∧ cols ≤ 1000
      · skip
        obtain ⟨k, rfl⟩ : ∃ k : Nat, cols = k := ⟨cols.toNat, by omega⟩
        subst hln
        refine RW.callA (R := fun w0 => IsReflow (outF rows k (linesL rows rows.length)) (l.map (posF rows k)) w0) rfl ca27 rfl (fun w' hw' => (Reflow_c w' F G A B rows.length c m d rows l k (hr.ext hw'.ext (by simp)) (hl.ext hw'.ext (by simp)) hsz hm hp (by omega) (by omega)).mono (fun e w'' h => h.toA)) ?_
        rintro w0 w1 v hw0 he01 hw1 hlt5 ⟨A1, n1, c1, A2, n2, c2, rfl, hrd1, hrd2⟩
        have hr1 := ((hr.ext hw0.ext (by simp)).ext he01 (by simp))
        have hl1 := ((hl.ext hw0.ext (by simp)).ext he01 (by simp))
        refine RW.move rfl rfl ?_
        refine RW.extract rfl rfl rfl ?_
        refine RW.extract rfl rfl rfl ?_
        refine RW.assign rfl rfl ?_
        refine RW.assign rfl rfl ?_
        refine RW.nil (EX.seq (CW.seq ?_))
        -- mq: region
        refine CW.region ?_
        refine RW.move rfl rfl ?_
        refine RW.move rfl rfl ?_
        refine RW.move rfl rfl ?_
        -- mq: at
        refine RW.callA (R := fun w0 => IsReflow (outF rows k (linesL rows rows.length)) (l.map (posF rows k)) w0) rfl ca28 rfl (fun w' hw' => (refReflow_c w' F G A B rows.length c m d rows l k (hr1.ext hw'.ext (by simp [feet])) (hl1.ext hw'.ext (by simp [feet])) hsz hm hp (by omega) (by omega)).mono (fun e w'' h => h.toA)) ?_
        rintro w2 w3 v hw2 he23 hw3 hlt6 ⟨A3, n3, c3, A4, n4, c4, rfl, hrd3, hrd4⟩
        have hrd1' := (hrd1.ext hw2.ext (by simp [feet])).ext he23 (by simp)
        have hrd2' := (hrd2.ext hw2.ext (by simp [feet])).ext he23 (by simp)
        have hmm := hrd2.len
        rw [List.length_map] at hmm
        have hmo := hrd1.len
        have hll := hl.len
        have hpart := outF_total (rows := rows) (cols := k) (by omega)
        have hsum : sumLen (outF rows k (linesL rows rows.length)) ≤ 1000000 := by
          rw [outF_sum]
          calc _ ≤ 1000 * 1000 := Nat.mul_le_mul (by omega) (by omega)
            _ = 1000000 := rfl
        refine RW.move rfl rfl ?_
        refine RW.extract rfl rfl rfl ?_
        refine RW.extract rfl rfl rfl ?_
        refine RW.assign rfl rfl ?_
        refine RW.assign rfl rfl ?_
        refine RW.nil (EX.seq (CW.seq ?_))
        -- mq: region
        refine CW.region ?_
        refine RW.move rfl rfl ?_
        refine RW.move rfl rfl ?_
        -- mq: at
        refine RW.call rfl ca13 rfl (fun w' hw' => rowsSame_c w' _ _ _ _ _ _ _ _ _ (hrd1'.ext hw'.ext (by simp [feet])) (hrd3.ext hw'.ext (by simp [feet])) (by omega) (fun row hrow => Nat.le_trans (mem_sumLen hrow) hsum)) ?_
        refine RW.move rfl rfl ?_
        refine RW.guardT rfl rfl rfl ?_
        refine RW.move rfl rfl ?_
        refine RW.guardT rfl rfl rfl ?_
        refine RW.move rfl rfl ?_
        refine RW.guardT rfl rfl rfl ?_
        -- mq: op 6: ('Op.call', ('Call.mk', ('Callee.value', ('Operand.func', '29')), ('arr', ('Operand.tmp', '41'), ('Operand.tmp', '42')), ('arr', '51', '51'))) -> slot 43 ("law.go:78")
        refine RW.call rfl ca29 rfl (fun w' hw' => places29_c w' _ _ _ _ _ _ _ _ _ (hrd2'.ext hw'.ext (by simp [feet])) (hrd4.ext hw'.ext (by simp [feet])) (by omega)) ?_
        refine RW.pickB rfl rfl rfl rfl ?_
        refine RW.assign rfl rfl ?_
        refine RW.nil (EX.seq (CW.ret ?_))
        refine EX.fin1 Try.results7 rfl (fun wz hw => ?_)
        -- mq: done
        exact ⟨rfl, ((((hw0.ext.trans0 he01).trans0 hw2.ext).trans0 he23).trans0 hw.ext)⟩
      · skip
        refine RW.callA (R := fun w0 => IsReflow rows l w0) rfl ca27 rfl (fun w' hw' => (ReflowNo_c w' F G A B n c m d rows l cols (hr.ext hw'.ext (by simp)) (hl.ext hw'.ext (by simp)) hsz hm hcols).mono (fun e w'' h => h.toA)) ?_
        rintro w0 w1 v hw0 he01 hw1 hlt5 ⟨A1, n1, c1, A2, n2, c2, rfl, hrd1, hrd2⟩
        have hr1 := ((hr.ext hw0.ext (by simp)).ext he01 (by simp))
        have hl1 := ((hl.ext hw0.ext (by simp)).ext he01 (by simp))
        have hmm := hrd2.len
        have hmo := hrd1.len
        have hll := hl.len
        refine RW.move rfl rfl ?_
        refine RW.extract rfl rfl rfl ?_
        refine RW.extract rfl rfl rfl ?_
        refine RW.assign rfl rfl ?_
        refine RW.assign rfl rfl ?_
        refine RW.nil (EX.seq (CW.seq ?_))
        -- mq: region
        refine CW.region ?_
        refine RW.move rfl rfl ?_
        refine RW.move rfl rfl ?_
        refine RW.move rfl rfl ?_
        -- mq: at
        refine RW.call rfl ca28 rfl (fun w' hw' => refReflowNo_c w' A B n c m d cols hcols) ?_
        refine RW.move rfl rfl ?_
        refine RW.extract rfl rfl rfl ?_
        refine RW.extract rfl rfl rfl ?_
        refine RW.assign rfl rfl ?_
        refine RW.assign rfl rfl ?_
        refine RW.nil (EX.seq (CW.seq ?_))
        -- mq: region
        refine CW.region ?_
        refine RW.move rfl rfl ?_
        refine RW.move rfl rfl ?_
        -- mq: at
        refine RW.call rfl ca13 rfl (fun w' hw' => rowsSame_c w' _ _ _ _ _ _ _ _ _ (hrd1.ext hw'.ext (by simp [feet])) (hr1.ext hw'.ext (by simp [feet])) (by omega) (fun row hrow => Nat.le_trans (mem_sumLen hrow) (by omega))) ?_
        refine RW.move rfl rfl ?_
        refine RW.guardT rfl rfl rfl ?_
        refine RW.move rfl rfl ?_
        refine RW.guardT rfl rfl rfl ?_
        refine RW.move rfl rfl ?_
        refine RW.guardT rfl rfl rfl ?_
        -- mq: op 6: ('Op.call', ('Call.mk', ('Callee.value', ('Operand.func', '29')), ('arr', ('Operand.tmp', '41'), ('Operand.tmp', '42')), ('arr', '51', '51'))) -> slot 43 ("law.go:78")
        refine RW.call rfl ca29 rfl (fun w' hw' => places29_c w' _ _ _ _ _ _ _ _ _ (hrd2.ext hw'.ext (by simp [feet])) (hl1.ext hw'.ext (by simp [feet])) (by omega)) ?_
        refine RW.pickB rfl rfl rfl rfl ?_
        refine RW.assign rfl rfl ?_
        refine RW.nil (EX.seq (CW.ret ?_))
        refine EX.fin1 Try.results7 rfl (fun wz hw => ?_)
        -- mq: done
        exact ⟨rfl, ((hw0.ext.trans0 he01).trans0 hw.ext)⟩
section
variable {H : Type} {enc : TypeId × Value → H} {w : World} {base : Nat} {spare : Nat → Bool} {held : Bool}
theorem shpPos : shp Try.prog 4 47 = some [.int .i64, .int .i64] := by kernel_rfl
theorem openPoss {fuel : Nat} {A : Option Addr} {n c : Nat} {x : DataW H × List MemPlace} (h : DataW.trod enc Try.prog w base spare held fuel 51 [.slice A n c] = some x) (hw : Wt Try.prog 51 x.1) :
    ∃ l, Rd EPos w (fun k => k < w.heap.size) A n c l ∧ ∀ p ∈ l, Pos64 p := by
  obtain ⟨l, h1, h3, h2⟩ := open_rd (E := EPos) (G := fun p => Pos64 p) 4 [.int .i64, .int .i64] Try.underlying51 (by kernel_rfl) (by decide) shpPos (fun cs hc => pos_of hc) (of_decide_eq_true (by kernel_rfl)) h hw
  exact ⟨l, h1, h3⟩
end
end Go.Proofs.Ytmdmdlfdijdhgaa.Mq
