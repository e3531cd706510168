/- walk of FlowBack -/
import Derived.Test.YtmdmdlfdijdhgaaAwake
import Derived.Test.YtmdmdlfdijdhgaaLaw1
namespace Go.Proofs.Ytmdmdlfdijdhgaa.Mq
open Go Go.RowKit Go.Proofs

theorem noPad_of_filter (l : List CellV) : NoPad (l.filter (fun c => decide (c.half ≠ 3))) := fun c hc => by simpa using (List.mem_filter.1 hc).2
theorem back_c (w : World) (F : Nat → Prop) (A : Option Addr) (n c : Nat) (l : List CellV) (hr : Rd ECell w F A n c l) (cols : Int) :
    Calls Try.prog 4 [.slice A n c, .int .i64 cols].toArray w (fun e w' => e = .returned (.bool true) ∧ Ext [] w w') := by
  have hl := hr.len
  refine calls (n := 51) Try.func4 rfl Try.ntmps4 rfl ?_
  refine CW.sub (H' := SH w [] []) ?_ (Sub.refl _) (fun x hx => SH.start' _ _ hx)
  refine CW.ownNil 34 8 ?_
  refine CW.seq (CW.region ?_)
  refine RW.assign rfl rfl ?_
  refine RW.nil (EX.seq (CW.seq (CW.seq (CW.region ?_))))
  refine RW.move rfl rfl ?_
  refine RW.lenSl Try.underlying22 rfl rfl ?_
  refine RW.gtr rfl rfl rfl ?_
  refine RW.move rfl rfl ?_
  -- mq: guard slot 11
  refine RW.casesB 11 rfl (fun h1 => ?_) (fun h1 => ?_)
  · skip
    have h1p := of_decide_eq_true h1
    refine RW.guardF rfl rfl rfl h1 ?_
    refine RW.guardF rfl rfl rfl h1 ?_
    refine RW.guardF rfl rfl rfl h1 ?_
    refine RW.pickB rfl rfl h1 rfl ?_
    refine RW.move rfl rfl ?_
    refine RW.guardF rfl rfl rfl rfl ?_
    refine RW.guardF rfl rfl rfl rfl ?_
    refine RW.pickB rfl rfl rfl rfl ?_
    refine RW.nil (EX.seq ?_)
    -- mq: cond
    refine CW.condT rfl (rfl) ?_
    refine CW.seq (CW.region ?_)
    refine RW.call rfl ca10 rfl (fun w' _ => awake_c w') ?_
    refine RW.assign rfl rfl ?_
    refine RW.nil (EX.seq (CW.ret (EX.seqR ?_)))
    refine EX.fin1 Try.results4 rfl (fun wz hw => ?_)
    -- mq: done
    exact ⟨rfl, hw.ext⟩
  · skip
    have h1p := of_decide_eq_false h1
    refine RW.guardT rfl rfl h1 ?_
    refine RW.move rfl rfl ?_
    refine RW.guardT rfl rfl h1 ?_
    -- mq: op 5: ('Op.call', ('Call.mk', ('Callee.value', ('Operand.func', '12')), ('arr', ('Operand.tmp', '12')), ('arr', '3'))) -> slot 13 ("law.go:83")
    refine RW.call rfl ca12 rfl (fun w' _ => Fits_c w' _) ?_
    refine RW.guardT rfl rfl h1 ?_
    refine RW.not_ rfl rfl ?_
    refine RW.pickC rfl rfl h1 rfl ?_
    refine RW.move rfl rfl ?_
    -- mq: guard slot 16
    refine RW.casesB 16 rfl (fun h2 => ?_) (fun h2 => ?_)
    · skip
      refine RW.guardF rfl rfl rfl h2 ?_
      refine RW.guardF rfl rfl rfl h2 ?_
      refine RW.pickB rfl rfl h2 rfl ?_
      refine RW.nil (EX.seq ?_)
      -- mq: cond
      refine CW.condT rfl (rfl) ?_
      refine CW.seq (CW.region ?_)
      refine RW.call rfl ca10 rfl (fun w' _ => awake_c w') ?_
      refine RW.assign rfl rfl ?_
      refine RW.nil (EX.seq (CW.ret (EX.seqR ?_)))
      refine EX.fin1 Try.results4 rfl (fun wz hw => ?_)
      -- mq: done
      exact ⟨rfl, hw.ext⟩
    · skip
      refine RW.guardT rfl rfl h2 ?_
      -- mq: op 9: ('Op.call', ('Call.mk', ('Callee.value', ('Operand.func', '10')), ('arr',), ('arr',))) -> slot 17 ("law.go:83")
      refine RW.call rfl ca10 rfl (fun w' _ => awake_c w') ?_
      refine RW.guardT rfl rfl h2 ?_
      refine RW.not_ rfl rfl ?_
      refine RW.pickC rfl rfl h2 rfl ?_
      refine RW.nil (EX.seq ?_)
      -- mq: cond
      refine CW.condF rfl (rfl) ?_
      have hcols : 2 ≤ cols ∧ cols ≤ 1000 := by simpa using h2
      obtain ⟨k, rfl⟩ : ∃ k : Nat, cols = k := ⟨cols.toNat, by omega⟩
      have hn : n ≤ 400 := by omega
      refine CW.skip (EX.seq (CW.seq (CW.region ?_)))
      refine RW.assign rfl rfl ?_
      refine RW.nil (EX.seq (CW.seq (CW.seq (CW.region ?_))))
      refine RW.assign rfl rfl ?_
      refine RW.nil (EX.seq (CW.block ?_))
      -- mq: loop
      refine CW.loop (ι := Nat × Value × List CellV) (fun i => [(0, .slice A n c), (1, .int .i64 (k : Int)), (5, i.2.1), (6, .int .i64 (i.1 : Int))]) (fun i => SH w [] [own 34 8 i.2.1 i.2.2.length (ECell.all i.2.2)]) (fun i => i.1 ≤ n ∧ i.2.2 = (l.take i.1).filter (fun c => decide (c.half ≠ 3))) (fun i => n - i.1) ?_ ?_
      · exact fun w hw => ⟨(0, .slice none 0 0, []), ⟨Nat.zero_le _, rfl⟩, (by repeat (first | exact Sub.nil | refine Sub.cons (by rfl) ?_)), hw⟩
      · rintro ⟨j, v, L⟩ ⟨hj, hL⟩
        dsimp only at hj hL ⊢
        have hLl : L.length ≤ j := by
          rw [hL]
          have := List.length_filter_le (fun c : CellV => decide (c.half ≠ 3)) (l.take j)
          rw [List.length_take] at this
          omega
        refine CW.seq (CW.seq (CW.region ?_))
        refine RW.move rfl rfl ?_
        refine RW.move rfl rfl ?_
        refine RW.lenSl Try.underlying22 rfl rfl ?_
        refine RW.lss rfl rfl rfl ?_
        refine RW.nil (EX.seq ?_)
        -- mq: cond
        first | refine CW.condD rfl (fun hjt => ?_) (fun hjt => ?_) | refine CW.cond rfl (fun hjt => ?_) (fun hjt => ?_)
        · skip
          obtain ⟨x, hx⟩ : ∃ x, l[j]? = some x := ⟨l[j]'(by omega), List.getElem?_eq_getElem _⟩
          obtain ⟨bd, hB, _, hxc⟩ := hr.at_ hx
          refine CW.skip (EX.seq (CW.seq (CW.block (CW.seq (CW.region ?_)))))
          refine RW.move rfl rfl ?_
          refine RW.move rfl rfl ?_
          refine RW.ixAddr (q := j) sl22 rfl rfl rfl (by first | rfl | assumption) (by omega) (by omega) ?_
          refine RW.fieldP fl34x2 rfl rfl ?_
          refine RW.load1 sc3 rfl rfl (fun w' hw' => hw'.base_cell (hxc 2 _ rfl) (by simp)) ?_
          refine RW.neqI rfl rfl rfl ?_
          refine RW.nil (EX.seq ?_)
          -- mq: cond
          first | refine CW.condD rfl (fun h3 => ?_) (fun h3 => ?_) | refine CW.cond rfl (fun h3 => ?_) (fun h3 => ?_)
          · skip
            refine CW.region ?_
            refine RW.move rfl rfl ?_
            refine RW.move rfl rfl ?_
            refine RW.move rfl rfl ?_
            refine RW.ixAddr (q := j) sl22 rfl rfl rfl (by first | rfl | assumption) (by omega) (by omega) ?_
            refine RW.loadA ag34 rfl rfl (rfl) (fun w' hw' j u hj => hw'.base_cell (hxc j u hj) (by simp)) ?_
            refine RW.buildSlc sl22 rfl rfl rfl rfl (fun g38 hg38 hf38 => ?_)
            refine RW.append1 sl22 rfl rfl rfl (by first | exact Rem.head | exact Rem.tail Rem.head | exact Rem.tail (Rem.tail Rem.head) | exact Rem.tail (Rem.tail (Rem.tail Rem.head)) | exact Rem.tail (Rem.tail (Rem.tail (Rem.tail Rem.head))) | exact Rem.tail (Rem.tail (Rem.tail (Rem.tail (Rem.tail Rem.head)))) | exact Rem.tail (Rem.tail (Rem.tail (Rem.tail (Rem.tail (Rem.tail Rem.head)))))) (fun _ => by first | exact Upd.head | exact Upd.tail Upd.head | exact Upd.tail (Upd.tail Upd.head) | exact Upd.tail (Upd.tail (Upd.tail Upd.head)) | exact Upd.tail (Upd.tail (Upd.tail (Upd.tail Upd.head))) | exact Upd.tail (Upd.tail (Upd.tail (Upd.tail (Upd.tail Upd.head)))) | exact Upd.tail (Upd.tail (Upd.tail (Upd.tail (Upd.tail (Upd.tail Upd.head)))))) rfl (by repeat (first | exact Ones.nil | exact Enc.ones _ _ | refine Ones.cons rfl ?_)) (by simp only [maxLen]; omega) (by omega) (fun v39 hv39 => ?_)
            refine RW.assign rfl rfl ?_
            refine RW.nil (EX.bkN (EX.seq (CW.region ?_)))
            refine RW.move rfl rfl ?_
            refine RW.add rfl rfl rfl (wrap64 (by omega) (by omega)) ?_
            refine RW.assign rfl rfl ?_
            refine RW.nil ?_
            -- mq: loopend
            refine EX.lpN (j + 1, v39, L ++ [x]) ⟨by omega, by rw [take_snoc' hx, filter_snoc, if_pos (decide_eq_true h3), hL]⟩ (by omega) (by repeat (first | exact Sub.nil | refine Sub.cons (by rfl) ?_)) (fun w' hw' => ?_)
            rw [List.length_append, Enc.all_snoc]
            exact hw'
          · skip
            refine CW.skip (EX.bkN (EX.seq (CW.region ?_)))
            refine RW.move rfl rfl ?_
            refine RW.add rfl rfl rfl (wrap64 (by omega) (by omega)) ?_
            refine RW.assign rfl rfl ?_
            refine RW.nil ?_
            -- mq: loopend
            refine EX.lpN (j + 1, v, L) ⟨by omega, by rw [take_snoc' hx, filter_snoc, if_neg (fun h => h3 (of_decide_eq_true h)), hL]⟩ (by omega) (by repeat (first | exact Sub.nil | refine Sub.cons (by rfl) ?_)) (fun w' hw' => hw')
        · skip
          have hjn : j = n := by omega
          subst hjn
          rw [List.take_of_length_le (by omega)] at hL
          refine CW.exit (EX.seqE (EX.lpE (EX.bkE (EX.seq (CW.seq (CW.region ?_))))))
          refine RW.move rfl rfl ?_
          -- mq: op 1: ('Op.call', ('Call.mk', ('Callee.value', ('Operand.func', '15')), ('arr', ('Operand.tmp', '40')), ('arr', '22'))) -> slot 41 ("law.go:92")
          refine RW.rebase (fun w1 hw1 => ?_)
          obtain ⟨A1, c1, rfl, hrd1⟩ := Rd.of_own (E := ECell) (hw1.has Has.head) rfl
          refine RW.callR rfl ca15 rfl (fun w' hw' => refMend_c w' _ A1 L.length c1 L (hrd1.ext hw'.ext (by simp)) (by omega)) ?_
          intro w2 w3 A2 m2 c2 hw2 he3 hw3 hrd2
          have hm2 := hrd2.len
          rw [mendL_length] at hm2
          refine RW.assign rfl rfl ?_
          refine RW.nil (EX.seq (CW.seq (CW.region ?_)))
          refine RW.move rfl rfl ?_
          refine RW.move rfl rfl ?_
          -- mq: op 2: ('Op.call', ('Call.mk', ('Callee.value', ('Operand.func', '11')), ('arr', ('Operand.tmp', '42'), ('Operand.tmp', '43')), ('arr', '22', '3'))) -> slot 44 ("law.go:93")
          have hnp : NoPad L := hL ▸ noPad_of_filter l
          have hsz := splitF_sum L k (by omega) (by omega) (by omega)
          refine RW.callA (R := fun w0 => IsRows (splitF L k) w0) rfl ca11 rfl (fun w' hw' => (Split_c w' _ A1 L.length c1 L k (((hrd1.ext0 hw2.ext).ext0 he3).ext0 hw'.ext) (by omega) (by omega) (by omega)).mono (fun e w'' h => h.toA)) ?_
          rintro w4 w5 v hw4 he45 hw5 hlt5 ⟨A3, n3, c3, rfl, hrd3⟩
          have hm3 := hrd3.len
          -- mq: op 3: ('Op.call', ('Call.mk', ('Callee.value', ('Operand.func', '17')), ('arr', ('Operand.tmp', '44')), ('arr', '24'))) -> slot 45 ("law.go:93")
          refine RW.callR rfl ca17 rfl (fun w' hw' => Flow_c w' _ A3 n3 c3 _ (hrd3.ext hw'.ext (by simp [feet])) (by omega) (by omega)) (fun w6 w7 A4 n4 c4 hw6 he67 hw7 hrd4 => ?_)
          refine RW.move rfl rfl ?_
          refine RW.move rfl rfl ?_
          -- mq: op 6: ('Op.call', ('Call.mk', ('Callee.value', ('Operand.func', '18')), ('arr', ('Operand.tmp', '47')), ('arr', '22'))) -> slot 48 ("law.go:93")
          have hrd2' := ((((hrd2.ext0 hw4.ext).ext0 he45).ext0 hw6.ext).ext0 he67)
          refine RW.call rfl ca18 rfl (fun w' hw' => refUsed_c w' _ A2 m2 c2 _ (hrd2'.ext hw'.ext (by simp)) (by omega)) ?_
          have hul := usedL_le (mendL L)
          rw [mendL_length] at hul
          have hcap := hrd2.cap
          refine RW.sliceSl 0 (usedL (mendL L)) sl22 rfl rfl (.inr ⟨rfl, rfl⟩) (.inl ⟨_, _, rfl, rfl, rfl⟩) (by omega) (by omega) ?_
          have hcut := hrd2'.cut (p := 0) (q := usedL (mendL L)) (by omega) (by omega)
          rw [List.drop_zero] at hcut
          have hn4 : n4 ≤ 1000000 := by
            have h := hrd4.len
            rw [back_law L k (by omega) hnp, trimL, List.length_take, mendL_length] at h
            omega
          refine RW.call rfl ca16 rfl (fun w' hw' => refSame_c w' _ _ _ _ _ _ _ _ _ _ (hrd4.ext hw'.ext (by simp)) (hcut.ext hw'.ext (by simp)) hn4) ?_
          refine RW.assign rfl rfl ?_
          refine RW.nil (EX.seq (CW.ret ?_))
          refine EX.fin1 Try.results4 rfl (fun wz hw => ?_)
          -- mq: done
          refine ⟨?_, ((((((hw1.ext.trans0 hw2.ext).trans0 he3).trans0 hw4.ext).trans0 he45).trans0 hw6.ext).trans0 he67).trans0 hw.ext⟩
          rw [decide_eq_true]
          exact back_law L k (by omega) hnp
end Go.Proofs.Ytmdmdlfdijdhgaa.Mq
