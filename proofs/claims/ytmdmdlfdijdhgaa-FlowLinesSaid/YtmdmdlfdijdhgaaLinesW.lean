/- walk of FlowLines -/
import Derived.Test.YtmdmdlfdijdhgaaAwake
import Derived.Test.YtmdmdlfdijdhgaaLines
namespace Go.Proofs.Ytmdmdlfdijdhgaa.Mq
open Go Go.RowKit Go.Proofs

theorem flowLines_c (w : World) (F : Nat → Prop) (A : Option Addr) (n c : Nat) (rows : List RowL) (hr : RdRows w F A n c rows) (hn0 : n ≤ 140737488351232) (hm0 : ∀ row ∈ rows, row.1.length ≤ 140737488351232) :
    Calls Try.prog 5 [.slice A n c].toArray w (fun e w' => e = .returned (.bool true) ∧ Ext [] w w') := by
  have hl := hr.len
  refine calls (n := 94) Try.func5 rfl Try.ntmps5 rfl ?_
  refine CW.sub (H' := SH w [] []) ?_ (Sub.refl _) (fun x hx => SH.start' _ _ hx)
  refine CW.seq (CW.region ?_)
  refine RW.assign rfl rfl ?_
  refine RW.nil (EX.seq (CW.seq (CW.seq (CW.region ?_))))
  refine RW.move rfl rfl ?_
  -- mq: op 1: ('Op.call', ('Call.mk', ('Callee.value', ('Operand.func', '19')), ('arr', ('Operand.tmp', '7')), ('arr', '24'))) -> slot 8 ("law.go:29")
  refine RW.call rfl ca19 rfl (fun w' hw' => Great_c w' _ A n c rows (hr.ext hw'.ext (by simp)) hn0 hm0) ?_
  refine RW.move rfl rfl ?_
  -- mq: guard slot 9
  refine RW.casesB 9 rfl (fun h1 => ?_) (fun h1 => ?_)
  · skip
    refine RW.guardF rfl rfl rfl h1 ?_
    refine RW.guardF rfl rfl rfl h1 ?_
    refine RW.pickB rfl rfl h1 rfl ?_
    refine RW.nil (EX.seq ?_)
    -- mq: cond
    refine CW.condT rfl (rfl) ?_
    refine CW.seq (CW.region ?_)
    refine RW.call rfl ca10 rfl (fun w' _ => awake_c w') ?_
    refine RW.assign rfl rfl ?_
    refine RW.nil (EX.seq (CW.ret (EX.seqR ?_)))
    refine EX.fin1 Try.results5 rfl (fun wz hw => ?_)
    -- mq: done
    exact ⟨rfl, hw.ext⟩
  · skip
    refine RW.guardT rfl rfl h1 ?_
    -- mq: op 3: ('Op.call', ('Call.mk', ('Callee.value', ('Operand.func', '10')), ('arr',), ('arr',))) -> slot 10 ("law.go:29")
    refine RW.call rfl ca10 rfl (fun w' _ => awake_c w') ?_
    refine RW.guardT rfl rfl h1 ?_
    refine RW.not_ rfl rfl ?_
    refine RW.pickC rfl rfl h1 rfl ?_
    refine RW.nil (EX.seq ?_)
    -- mq: cond
    refine CW.condF rfl (rfl) ?_
    have hsz : n + sumLen rows ≤ 600 := by simpa using h1
    refine CW.skip (EX.seq (CW.seq (CW.region ?_)))
    refine RW.move rfl rfl ?_
    -- mq: op 1: ('Op.call', ('Call.mk', ('Callee.value', ('Operand.func', '20')), ('arr', ('Operand.tmp', '14')), ('arr', '24'))) -> slot 15 ("law.go:32")
    refine RW.callR rfl ca20 rfl (fun w' hw' => Lines_c w' _ A n c rows (hr.ext hw'.ext (by simp)) (by omega)) (fun w0 w1 A3 n3 c3 hw0 he01 hw1 hrd3 => ?_)
    have hm3 := hrd3.len
    have hll := linesL_length rows n
    have hr1 := (hr.ext hw0.ext (by simp)).ext he01 (by simp)
    refine RW.assign rfl rfl ?_
    refine RW.nil (EX.seq (CW.seq (CW.region ?_)))
    refine RW.assign rfl rfl ?_
    refine RW.nil (EX.seq (CW.seq (CW.seq (CW.region ?_))))
    refine RW.assign rfl rfl ?_
    refine RW.nil (EX.seq (CW.block ?_))
    -- mq: loop
    refine CW.loop (ι := Nat × Nat × List (Int × Int)) (fun i => [(0, .slice A n c), (3, .slice A3 n3 c3), (4, .int .i64 (i.2.1 : Int)), (5, .int .i64 (i.1 : Int))]) (fun _ => SH w1 [] []) (fun i => i.1 + i.2.2.length = n3 ∧ i.2.2 = (linesL rows n).drop i.1 ∧ chainE rows n i.2.1 i.2.2) (fun i => i.2.2.length) ?_ ?_
    · exact fun w hw => ⟨(0, 0, linesL rows n), ⟨by simpa using hm3, rfl, linesL_chain rows n⟩, (by repeat (first | exact Sub.nil | refine Sub.cons (by rfl) ?_)), hw⟩
    · rintro ⟨i, a, rest⟩ ⟨hlen, hdrop, hch⟩
      dsimp only at hlen hdrop hch ⊢
      refine CW.seq (CW.seq (CW.region ?_))
      refine RW.move rfl rfl ?_
      refine RW.move rfl rfl ?_
      refine RW.lenSl Try.underlying40 rfl rfl ?_
      refine RW.lss rfl rfl rfl ?_
      refine RW.nil (EX.seq ?_)
      -- mq: cond
      first | refine CW.condD rfl (fun hlt => ?_) (fun hlt => ?_) | refine CW.cond rfl (fun hlt => ?_) (fun hlt => ?_)
      · skip
        cases rest with
        | nil => simp at hlen; omega
        | cons p rest =>
        have hx : (linesL rows n)[i]? = some p := by
          have := congrArg (fun l => l[0]?) hdrop
          simpa using this.symm
        have hrest : rest = (linesL rows n).drop (i + 1) := by
          have := congrArg List.tail hdrop
          simpa using this
        obtain ⟨e, rfl, hae, hen, hgood, hcont, hch'⟩ := chainE_step hch
        obtain ⟨bd, hB, _, hpc⟩ := hrd3.at_ hx
        refine CW.skip (EX.seq (CW.seq (CW.block (CW.seq (CW.seq (CW.region ?_))))))
        refine RW.move rfl rfl ?_
        refine RW.move rfl rfl ?_
        refine RW.ixAddr (q := i) sl40 rfl rfl rfl (by first | rfl | assumption) (by omega) (by omega) ?_
        refine RW.ixArr (q := 0) Try.underlying42 ar42 rfl rfl rfl (by omega) (by omega) ?_
        refine RW.load1 sc3 rfl rfl (fun w' hw' => hw'.base_cell (hpc 0 _ rfl) (by simp)) ?_
        refine RW.move rfl rfl ?_
        refine RW.neqI rfl rfl rfl ?_
        refine RW.move rfl rfl ?_
        refine RW.guardT rfl rfl (by simp) ?_
        refine RW.move rfl rfl ?_
        refine RW.guardT rfl rfl (by simp) ?_
        refine RW.move rfl rfl ?_
        refine RW.guardT rfl rfl (by simp) ?_
        refine RW.ixAddr (q := i) sl40 rfl rfl rfl (by first | rfl | assumption) (by omega) (by omega) ?_
        refine RW.guardT rfl rfl (by simp) ?_
        refine RW.ixArr (q := 1) Try.underlying42 ar42 rfl rfl rfl (by omega) (by omega) ?_
        refine RW.guardT rfl rfl (by simp) ?_
        refine RW.load1 sc3 rfl rfl (fun w' hw' => hw'.base_cell (hpc 1 _ rfl) (by simp)) ?_
        refine RW.guardT rfl rfl (by simp) ?_
        refine RW.move rfl rfl ?_
        refine RW.guardT rfl rfl (by simp) ?_
        refine RW.leq rfl rfl rfl ?_
        refine RW.pickC rfl rfl (by simp) rfl ?_
        refine RW.move rfl rfl ?_
        refine RW.guardT rfl rfl (by simp; omega) ?_
        refine RW.move rfl rfl ?_
        refine RW.guardT rfl rfl (by simp; omega) ?_
        refine RW.move rfl rfl ?_
        refine RW.guardT rfl rfl (by simp; omega) ?_
        refine RW.ixAddr (q := i) sl40 rfl rfl rfl (by first | rfl | assumption) (by omega) (by omega) ?_
        refine RW.guardT rfl rfl (by simp; omega) ?_
        refine RW.ixArr (q := 1) Try.underlying42 ar42 rfl rfl rfl (by omega) (by omega) ?_
        refine RW.guardT rfl rfl (by simp; omega) ?_
        refine RW.load1 sc3 rfl rfl (fun w' hw' => hw'.base_cell (hpc 1 _ rfl) (by simp)) ?_
        refine RW.guardT rfl rfl (by simp; omega) ?_
        refine RW.move rfl rfl ?_
        refine RW.guardT rfl rfl (by simp; omega) ?_
        refine RW.lenSl Try.underlying24 rfl rfl ?_
        refine RW.guardT rfl rfl (by simp; omega) ?_
        refine RW.gtr rfl rfl rfl ?_
        refine RW.pickC rfl rfl (by simp; omega) rfl ?_
        refine RW.nil (EX.seq ?_)
        -- mq: cond
        refine CW.condF rfl ((by simp; omega)) ?_
        refine CW.skip (EX.seq (CW.seq (CW.seq (CW.region ?_))))
        refine RW.move rfl rfl ?_
        refine RW.move rfl rfl ?_
        refine RW.ixAddr (q := i) sl40 rfl rfl rfl (by first | rfl | assumption) (by omega) (by omega) ?_
        refine RW.ixArr (q := 0) Try.underlying42 ar42 rfl rfl rfl (by omega) (by omega) ?_
        refine RW.load1 sc3 rfl rfl (fun w' hw' => hw'.base_cell (hpc 0 _ rfl) (by simp)) ?_
        refine RW.assign rfl rfl ?_
        refine RW.nil (EX.seq (CW.block ?_))
        -- mq: loop
        refine CW.loop (ι := Nat) (fun k => [(0, .slice A n c), (3, .slice A3 n3 c3), (4, .int .i64 (a : Int)), (5, .int .i64 (i : Int)), (6, .int .i64 (k : Int))]) (fun _ => SH w1 [] []) (fun k => a ≤ k ∧ k ≤ e) (fun k => e - k) ?_ ?_
        · exact fun w hw => ⟨a, ⟨Nat.le_refl _, by omega⟩, (by repeat (first | exact Sub.nil | refine Sub.cons (by rfl) ?_)), hw⟩
        · rintro k ⟨hk1, hk2⟩
          refine CW.seq (CW.seq (CW.region ?_))
          refine RW.move rfl rfl ?_
          refine RW.move rfl rfl ?_
          refine RW.move rfl rfl ?_
          refine RW.ixAddr (q := i) sl40 rfl rfl rfl (by first | rfl | assumption) (by omega) (by omega) ?_
          refine RW.ixArr (q := 1) Try.underlying42 ar42 rfl rfl rfl (by omega) (by omega) ?_
          refine RW.load1 sc3 rfl rfl (fun w' hw' => hw'.base_cell (hpc 1 _ rfl) (by simp)) ?_
          refine RW.lss rfl rfl rfl ?_
          refine RW.nil (EX.seq ?_)
          -- mq: cond
          first | refine CW.condD rfl (fun hke => ?_) (fun hke => ?_) | refine CW.cond rfl (fun hke => ?_) (fun hke => ?_)
          · skip
            refine CW.skip (EX.seq (CW.seq (CW.block (CW.seq (CW.region ?_)))))
            refine RW.move rfl rfl ?_
            refine RW.move rfl rfl ?_
            -- mq: op 2: ('Op.call', ('Call.mk', ('Callee.value', ('Operand.func', '21')), ('arr', ('Operand.tmp', '62'), ('Operand.tmp', '63')), ('arr', '24', '3'))) -> slot 64 ("law.go:39")
            refine RW.call rfl ca21 rfl (fun w' hw' => Line_c w' _ A n c rows (hr1.ext hw'.ext (by simp)) (by omega) k (by omega)) ?_
            have hg := hgood k hk1 (by omega)
            rw [hg]
            refine RW.move rfl rfl ?_
            refine RW.neqI rfl rfl rfl ?_
            refine RW.nil (EX.seq ?_)
            -- mq: cond
            refine CW.condF rfl ((by simp)) ?_
            refine CW.skip (EX.bkN (EX.seq (CW.region ?_)))
            refine RW.move rfl rfl ?_
            refine RW.add rfl rfl rfl (wrap64 (by omega) (by omega)) ?_
            refine RW.assign rfl rfl ?_
            refine RW.nil ?_
            -- mq: loopend
            exact EX.lpN (k + 1) ⟨by omega, by omega⟩ (by omega) (by repeat (first | exact Sub.nil | refine Sub.cons (by rfl) ?_)) (fun w' hw' => hw')
          · skip
            refine CW.exit (EX.seqE (EX.lpE (EX.bkE (EX.seq (CW.seq (CW.region ?_))))))
            refine RW.move rfl rfl ?_
            refine RW.move rfl rfl ?_
            refine RW.ixAddr (q := i) sl40 rfl rfl rfl (by first | rfl | assumption) (by omega) (by omega) ?_
            refine RW.ixArr (q := 1) Try.underlying42 ar42 rfl rfl rfl (by omega) (by omega) ?_
            refine RW.load1 sc3 rfl rfl (fun w' hw' => hw'.base_cell (hpc 1 _ rfl) (by simp)) ?_
            refine RW.assign rfl rfl ?_
            refine RW.nil (EX.seq (CW.seq (CW.region ?_)))
            refine RW.move rfl rfl ?_
            refine RW.move rfl rfl ?_
            refine RW.lenSl Try.underlying24 rfl rfl ?_
            refine RW.lss rfl rfl rfl ?_
            refine RW.move rfl rfl ?_
            -- mq: guard slot 76
            refine RW.casesB 76 rfl (fun h5 => ?_) (fun h5 => ?_)
            · skip
              have h5p := of_decide_eq_true h5
              have hc5 := hcont (by omega)
              obtain ⟨row, hrow⟩ : ∃ row, rows[e]? = some row := ⟨rows[e]'(by omega), List.getElem?_eq_getElem _⟩
              obtain ⟨ad, B, m, d, hA, _, hcell, _⟩ := hr1.at_ hrow
              have hrc : row.2 = false := by rw [← hc5, contAt, hrow]; rfl
              refine RW.guardT rfl rfl h5 ?_
              refine RW.move rfl rfl ?_
              refine RW.guardT rfl rfl h5 ?_
              refine RW.move rfl rfl ?_
              refine RW.guardT rfl rfl h5 ?_
              refine RW.ixAddr (q := e) sl24 rfl rfl rfl (by first | rfl | assumption) (by omega) (by omega) ?_
              refine RW.guardT rfl rfl h5 ?_
              refine RW.fieldP fl45x1 rfl rfl ?_
              refine RW.guardT rfl rfl h5 ?_
              refine RW.load1 sc4 rfl rfl (fun w' hw' => hw'.base_cell (hcell 1 _ rfl) (by simp)) ?_
              refine RW.pickB rfl rfl h5 rfl ?_
              refine RW.nil (EX.seq ?_)
              -- mq: cond
              refine CW.condF rfl (hrc) ?_
              refine CW.skip (EX.bkN (EX.seq (CW.region ?_)))
              refine RW.move rfl rfl ?_
              refine RW.add rfl rfl rfl (wrap64 (by omega) (by omega)) ?_
              refine RW.assign rfl rfl ?_
              refine RW.nil ?_
              -- mq: loopend
              exact EX.lpN (i + 1, e, rest) ⟨by simp at hlen ⊢; omega, hrest, hch'⟩ (by simp) (by repeat (first | exact Sub.nil | refine Sub.cons (by rfl) ?_)) (fun w' hw' => hw')
            · skip
              have h5p := of_decide_eq_false h5
              refine RW.guardF rfl rfl rfl h5 ?_
              refine RW.guardF rfl rfl rfl h5 ?_
              refine RW.guardF rfl rfl rfl h5 ?_
              refine RW.guardF rfl rfl rfl h5 ?_
              refine RW.guardF rfl rfl rfl h5 ?_
              refine RW.pickC rfl rfl h5 rfl ?_
              refine RW.nil (EX.seq ?_)
              -- mq: cond
              refine CW.condF rfl (rfl) ?_
              refine CW.skip (EX.bkN (EX.seq (CW.region ?_)))
              refine RW.move rfl rfl ?_
              refine RW.add rfl rfl rfl (wrap64 (by omega) (by omega)) ?_
              refine RW.assign rfl rfl ?_
              refine RW.nil ?_
              -- mq: loopend
              exact EX.lpN (i + 1, e, rest) ⟨by simp at hlen ⊢; omega, hrest, hch'⟩ (by simp) (by repeat (first | exact Sub.nil | refine Sub.cons (by rfl) ?_)) (fun w' hw' => hw')
      · skip
        have hr0 : rest = [] := List.eq_nil_of_length_eq_zero (by omega)
        subst hr0
        have han : a = n := by
          rcases hch with ⟨_, h⟩ | ⟨M, s, h, _⟩
          · exact h
          · simp at h
        subst han
        refine CW.exit (EX.seqE (EX.lpE (EX.bkE (EX.seq (CW.seq (CW.region ?_))))))
        refine RW.move rfl rfl ?_
        refine RW.move rfl rfl ?_
        refine RW.lenSl Try.underlying24 rfl rfl ?_
        refine RW.eqlI rfl rfl rfl ?_
        refine RW.move rfl rfl ?_
        refine RW.guardT rfl rfl (by simp) ?_
        refine RW.move rfl rfl ?_
        refine RW.guardT rfl rfl (by simp) ?_
        -- mq: op 6: ('Op.call', ('Call.mk', ('Callee.value', ('Operand.func', '17')), ('arr', ('Operand.tmp', '88')), ('arr', '24'))) -> slot 89 ("law.go:48")
        refine RW.callR rfl ca17 rfl (fun w' hw' => Flow_c w' _ A a c rows (hr1.ext hw'.ext (by simp)) (by omega) (by omega)) (fun w2 w3 A4 n4 c4 hw2 he23 hw3 hrd4 => ?_)
        refine RW.guardT rfl rfl (by simp) ?_
        refine RW.move rfl rfl ?_
        refine RW.guardT rfl rfl (by simp) ?_
        -- mq: op 8: ('Op.call', ('Call.mk', ('Callee.value', ('Operand.func', '22')), ('arr', ('Operand.tmp', '90')), ('arr', '24'))) -> slot 91 ("law.go:48")
        have hr3 := (hr1.ext hw2.ext (by simp)).ext he23 (by simp)
        refine RW.callR rfl ca22 rfl (fun w' hw' => refFlow_c w' _ A a c rows (hr3.ext hw'.ext (by simp)) (by omega) (by omega)) (fun w4 w5 A5 n5 c5 hw4 he45 hw5 hrd5 => ?_)
        refine RW.guardT rfl rfl (by simp) ?_
        -- mq: op 9: ('Op.call', ('Call.mk', ('Callee.value', ('Operand.func', '16')), ('arr', ('Operand.tmp', '89'), ('Operand.tmp', '91')), ('arr', '22', '22'))) -> slot 92 ("law.go:48")
        have hrd4' := (hrd4.ext hw4.ext (by simp)).ext he45 (by simp)
        have hn4 : n4 ≤ 1000000 := by
          have h := hrd4.len
          have h2 := cellsOf_le rows
          rw [flowF, trimL, List.length_take, mendL_length] at h
          omega
        refine RW.call rfl ca16 rfl (fun w' hw' => refSame_c w' _ _ _ _ _ _ _ _ _ _ (hrd4'.ext hw'.ext (by simp)) (hrd5.ext hw'.ext (by simp)) hn4) ?_
        refine RW.pickB rfl rfl (by simp) rfl ?_
        refine RW.assign rfl rfl ?_
        refine RW.nil (EX.seq (CW.ret ?_))
        refine EX.fin1 Try.results5 rfl (fun wz hw => ?_)
        -- mq: done
        refine ⟨?_, ((((hw0.ext.trans0 he01).trans0 hw2.ext).trans0 he23).trans0 hw4.ext).trans0 (he45.trans0 hw.ext)⟩
        simp
end Go.Proofs.Ytmdmdlfdijdhgaa.Mq
