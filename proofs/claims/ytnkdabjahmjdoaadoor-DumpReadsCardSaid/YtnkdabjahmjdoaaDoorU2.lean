/- dump: DumpReads -/
import Derived.Test.YtnkdabjahmjdoaaDoorU1
namespace Go.Proofs.YtnkdabjahmjdoaaDoor.Mq
open Go Go.RowKit Go.Proofs

theorem cut_mid {s : List UInt8} {f i : Nat} (hfi : f ≤ i) (hi : s[i]? = some 10) (hno : ∀ k, f ≤ k → k < i → s[k]? ≠ some 10) :
    (10 : UInt8) ∈ s.drop f ∧ (s.drop f).takeWhile (· ≠ 10) = (s.take i).drop f ∧ ((s.drop f).dropWhile (· ≠ 10)).drop 1 = s.drop (i + 1) := by
  have hlt := (List.getElem?_eq_some_iff.1 hi).1
  have e : s.drop f = (s.take i).drop f ++ 10 :: s.drop (i + 1) := by
    have h1 : s = s.take i ++ 10 :: s.drop (i + 1) := by
      conv => lhs; rw [← List.take_append_drop i s, List.drop_eq_getElem_cons hlt, (List.getElem?_eq_some_iff.1 hi).2]
    conv => lhs; rw [h1]
    rw [List.drop_append_of_le_length (by rw [List.length_take]; omega)]
  have hp : (10 : UInt8) ∉ (s.take i).drop f := by
    intro hm
    obtain ⟨k, hk⟩ := List.mem_iff_getElem?.1 hm
    rw [List.getElem?_drop, List.getElem?_take] at hk
    split at hk
    · exact hno (f + k) (by omega) (by omega) hk
    · cases hk
  rw [e]
  exact ⟨by simp, (cut_pre hp).1, (cut_pre hp).2⟩
theorem no_mid {s : List UInt8} {f : Nat} (hno : ∀ k, f ≤ k → k < s.length → s[k]? ≠ some 10) : (10 : UInt8) ∉ s.drop f := by
  intro hm
  obtain ⟨k, hk⟩ := List.mem_iff_getElem?.1 hm
  rw [List.getElem?_drop] at hk
  exact hno (f + k) (by omega) (List.getElem?_eq_some_iff.1 hk).1 hk
set_option maxHeartbeats 1000000 in
theorem dreads_c (w : World) (hg : GD w) (s : List UInt8) :
    Calls Tryd.prog 7 [.string (bs s)].toArray w (fun e w' => e = .returned (.bool true) ∧ Ext [] w w') := by
  refine calls (n := 94) Tryd.func7 rfl Tryd.ntmps7 rfl ?_
  refine CW.sub (H' := SH w [] []) ?_ (Sub.refl _) (fun x hx => SH.start' _ _ hx)
  refine CW.seq (CW.region ?_)
  refine RW.assign rfl rfl ?_
  refine RW.nil (EX.seq (CW.seq (CW.seq (CW.region ?_))))
  refine RW.move rfl rfl ?_
  refine RW.lenS Tryd.underlying9 rfl rfl ?_
  refine RW.gtr rfl rfl rfl ?_
  refine RW.move rfl rfl ?_
  -- mq: guard slot 15
  refine RW.casesB 15 rfl (fun h1 => ?_) (fun h1 => ?_)
  · skip
    have h1p := of_decide_eq_true h1
    refine RW.guardF rfl rfl rfl h1 ?_
    refine RW.guardF rfl rfl rfl h1 ?_
    refine RW.pickB rfl rfl h1 rfl ?_
    refine RW.nil (EX.seq ?_)
    -- mq: cond
    refine CW.condT rfl (rfl) ?_
    refine CW.seq (CW.region ?_)
    refine RW.call rfl ca10 rfl (fun w' hw' => awake_c w' (hg.ext hw'.ext).l) ?_
    refine RW.assign rfl rfl ?_
    refine RW.nil (EX.seq (CW.ret (EX.seqR ?_)))
    refine EX.fin1 Tryd.results7 rfl (fun wz hw => ?_)
    -- mq: done
    exact ⟨rfl, hw.ext⟩
  · skip
    have h1p := of_decide_eq_false h1
    refine RW.guardT rfl rfl h1 ?_
    refine RW.call rfl ca10 rfl (fun w' hw' => awake_c w' (hg.ext hw'.ext).l) ?_
    refine RW.guardT rfl rfl h1 ?_
    refine RW.not_ rfl rfl ?_
    refine RW.pickC rfl rfl h1 rfl ?_
    refine RW.nil (EX.seq ?_)
    -- mq: cond
    refine CW.condF rfl (rfl) ?_
    refine CW.skip (EX.seq (CW.seq ?_))
    -- mq: region
    refine CW.region ?_
    refine RW.move rfl rfl ?_
    -- mq: at
    refine RW.callA (R := fun w0 => IsRead (readF 1 s) w0) rfl ca20 rfl (fun w' hw' => Read_c w' (hg.ext hw'.ext) s (by omega)) (fun w1 w2 v hw1 he12 hw2 hlt2 hv => ?_)
    obtain ⟨A, m, c, rfl, hrd⟩ := hv
    have hx12 : Ext [] w w2 := hw1.ext.trans0 he12
    have hcv := hw1.cov
    have hm := hrd.len
    refine RW.move rfl rfl ?_
    refine RW.extract rfl rfl rfl ?_
    refine RW.extract rfl rfl rfl ?_
    refine RW.extract rfl rfl rfl ?_
    refine RW.assign rfl rfl ?_
    refine RW.assign rfl rfl ?_
    refine RW.assign rfl rfl ?_
    refine RW.nil (EX.seq (CW.seq ?_))
    -- mq: region
    refine CW.ownNil 26 17 ?_
    refine CW.region ?_
    refine RW.assign rfl rfl ?_
    refine RW.nil (EX.seq (CW.seq (CW.region ?_)))
    refine RW.assign rfl rfl ?_
    refine RW.assign rfl rfl ?_
    refine RW.nil (EX.seq (CW.seq (CW.seq (CW.region ?_))))
    refine RW.assign rfl rfl ?_
    refine RW.nil (EX.seq (CW.block ?_))
    -- mq: loop
    refine CW.loop (ι := Nat × Nat × Nat × Value × List BlkV) (fun t => [(0, .string (bs s)), (3, .slice A m c), (4, .int .i64 ((readF 1 s).2.1 : Int)), (5, .int .i64 ((readF 1 s).2.2 : Int)), (6, t.2.2.2.1), (7, .int .i64 (t.2.2.1 : Int)), (8, .int .i64 (t.2.1 : Int)), (9, .int .i64 (t.1 : Int))]) (fun t => SH w2 (feet []) [own 26 17 t.2.2.2.1 t.2.2.2.2.length (EBlk.all t.2.2.2.2)]) (fun t => t.2.1 ≤ t.1 ∧ t.1 ≤ s.length ∧ (∀ k, t.2.1 ≤ k → k < t.1 → s[k]? ≠ some 10) ∧ t.2.2.1 ≤ t.1 + 1 ∧ t.2.2.2.2.length ≤ t.1 ∧ readF 1 s = addF t.2.2.2.2 (readF t.2.2.1 (s.drop t.2.1))) (fun t => s.length - t.1) ?_ ?_
    · exact fun w' hw' => ⟨(0, 0, 1, _, []), ⟨Nat.le_refl _, Nat.zero_le _, fun k _ hk => absurd hk (Nat.not_lt_zero _), Nat.le_refl _, Nat.le_refl _, addF_start 1 s⟩, (by repeat (first | exact Sub.nil | refine Sub.cons (by rfl) ?_)), hw'⟩
    · rintro ⟨i, f, ln, v, O⟩ ⟨hfi, his, hno, hln, hOl, hsp⟩
      dsimp only at hfi his hno hln hOl hsp ⊢
      refine CW.seq (CW.seq (CW.region ?_))
      refine RW.move rfl rfl ?_
      refine RW.move rfl rfl ?_
      refine RW.lenS Tryd.underlying9 rfl rfl ?_
      refine RW.lss rfl rfl rfl ?_
      refine RW.nil (EX.seq ?_)
      -- mq: cond
      first | refine CW.condD rfl (fun hlt => ?_) (fun hlt => ?_) | refine CW.cond rfl (fun hlt => ?_) (fun hlt => ?_)
      · skip
        obtain ⟨c0, hc0⟩ : ∃ c, s[i]? = some c := ⟨s[i]'(by omega), List.getElem?_eq_getElem _⟩
        have hc8 := UInt8.toNat_lt c0
        refine CW.skip (EX.seq (CW.seq (CW.block (CW.seq (CW.seq (CW.region ?_))))))
        refine RW.move rfl rfl ?_
        refine RW.move rfl rfl ?_
        refine RW.ixStr (q := i) Tryd.underlying9 rfl rfl rfl (by omega) hc0 ?_
        refine RW.neqI rfl rfl rfl ?_
        refine RW.nil (EX.seq ?_)
        -- mq: cond
        first | refine CW.condD rfl (fun h2 => ?_) (fun h2 => ?_) | refine CW.cond rfl (fun h2 => ?_) (fun h2 => ?_)
        · skip
          refine CW.exit (EX.seqE (EX.bkE (EX.seq (CW.region ?_))))
          refine RW.move rfl rfl ?_
          refine RW.add rfl rfl rfl (wrap64 (by omega) (by omega)) ?_
          refine RW.assign rfl rfl ?_
          refine RW.nil ?_
          -- mq: loopend
          refine EX.lpN (i + 1, f, ln, v, O) ⟨by dsimp only; omega, by dsimp only; omega, fun k hk1 hk2 => ?_, by dsimp only; omega, by dsimp only; omega, hsp⟩ (by dsimp only; omega) (by repeat (first | exact Sub.nil | refine Sub.cons (by rfl) ?_)) (fun w' hw' => hw')
          rcases Nat.lt_succ_iff_lt_or_eq.1 hk2 with h | rfl
          · exact hno k hk1 h
          · rw [hc0]; intro e; exact h2 (by rw [Option.some.inj e]; rfl)
        · skip
          obtain rfl : c0 = 10 := UInt8.toNat_inj.1 (by have : (10 : UInt8).toNat = 10 := rfl; omega)
          obtain ⟨hin, htw, hdw⟩ := cut_mid hfi hc0 hno
          have hpl : ((s.take i).drop f).length ≤ 1000000 := by rw [List.length_drop, List.length_take]; omega
          have hpp := fun w' => rparse31_c w' ((s.take i).drop f) hpl
          have hbad := readF_bad (n := ln) hin
          have hst := addF_step (n := ln) (O := O) hin
          rw [htw] at hbad hst
          rw [hdw] at hst
          generalize parseD ((s.take i).drop f) = pq at hpp hbad hst
          obtain ⟨b, e⟩ := pq
          dsimp only at hbad hst
          refine CW.skip (EX.seq (CW.seq ?_))
          -- mq: region
          refine CW.region ?_
          refine RW.move rfl rfl ?_
          refine RW.move rfl rfl ?_
          refine RW.move rfl rfl ?_
          refine RW.sliceStrLH f i Tryd.underlying9 rfl rfl rfl rfl (by first | rfl | omega) (by first | rfl | omega) (by omega) (by first | omega | (simp; done) | (simp; omega)) ?_
          refine RW.call (v := dparV (b, e)) rfl ca19 rfl (fun w' _ => hpp w') ?_
          refine RW.move rfl rfl ?_
          refine RW.extract rfl rfl rfl ?_
          refine RW.extract rfl rfl rfl ?_
          refine RW.allocA ag26 rfl (fun g10 hg10 hf10 => ?_)
          refine RW.storeA ag26 rfl rfl (by first | exact Upd.head | exact Upd.tail Upd.head | exact Upd.tail (Upd.tail Upd.head) | exact Upd.tail (Upd.tail (Upd.tail Upd.head)) | exact Upd.tail (Upd.tail (Upd.tail (Upd.tail Upd.head))) | exact Upd.tail (Upd.tail (Upd.tail (Upd.tail (Upd.tail Upd.head)))) | exact Upd.tail (Upd.tail (Upd.tail (Upd.tail (Upd.tail (Upd.tail Upd.head)))))) (by first | rfl | exact Enc.len _ _) (by repeat (first | exact Ones.nil | exact Enc.ones _ _ | refine Ones.cons rfl ?_)) (by first | exact Nat.le_of_ble_eq_true rfl | (simp only [Enc.len]; decide)) ?_
          refine RW.assign rfl rfl ?_
          refine RW.nil (EX.seq (CW.seq (CW.seq ?_)))
          -- mq: region
          refine CW.sub (H' := SH w2 (feet []) [blk g10 b.cells 26, own 26 17 v O.length (EBlk.all O)]) ?_ (Sub.refl _) (fun x hx => hx.blkEq (by kernel_rfl))
          refine CW.region ?_
          refine RW.move rfl rfl ?_
          refine RW.neqI rfl rfl rfl ?_
          refine RW.nil (EX.seq ?_)
          -- mq: cond
          first | refine CW.condD rfl (fun h3 => ?_) (fun h3 => ?_) | refine CW.cond rfl (fun h3 => ?_) (fun h3 => ?_)
          · skip
            have hr : readF 1 s = ([], ln, e) := by
              rw [hsp, hbad (by omega), addF_err (by omega)]
            rw [hr] at hm
            rw [hr]
            dsimp only at hm ⊢
            refine CW.seq ?_
            -- mq: region
            refine CW.region ?_
            refine RW.move rfl rfl ?_
            refine RW.lenSl Tryd.underlying28 rfl rfl ?_
            refine RW.eqlI rfl rfl rfl ?_
            refine RW.move rfl rfl ?_
            refine RW.guardT rfl rfl (decide_eq_true (by rw [← hm]; rfl)) ?_
            refine RW.move rfl rfl ?_
            refine RW.guardT rfl rfl (decide_eq_true (by rw [← hm]; rfl)) ?_
            refine RW.move rfl rfl ?_
            refine RW.guardT rfl rfl (decide_eq_true (by rw [← hm]; rfl)) ?_
            refine RW.eqlI rfl rfl rfl ?_
            refine RW.pickB rfl rfl (decide_eq_true (by rw [← hm]; rfl)) rfl ?_
            refine RW.move rfl rfl ?_
            refine RW.guardT rfl rfl (decide_eq_true rfl) ?_
            refine RW.move rfl rfl ?_
            refine RW.guardT rfl rfl (decide_eq_true rfl) ?_
            refine RW.move rfl rfl ?_
            refine RW.guardT rfl rfl (decide_eq_true rfl) ?_
            refine RW.eqlI rfl rfl rfl ?_
            refine RW.pickB rfl rfl (decide_eq_true rfl) rfl ?_
            refine RW.assign rfl rfl ?_
            refine RW.nil (EX.seq (CW.ret (EX.seqR (EX.bkR (EX.seqR (EX.lpR (EX.bkR (EX.seqR ?_))))))))
            refine EX.fin1 Tryd.results7 rfl (fun wz hw => ?_)
            -- mq: done
            exact ⟨by rw [decide_eq_true rfl], ((hw.rem Rem.head).rem Rem.head).unbase hx12 hcv |>.ext⟩
          · skip
            have hst2 := hst (by omega)
            refine CW.skip (EX.seq (CW.seq (CW.region ?_)))
            refine RW.move rfl rfl ?_
            refine RW.loadBA ag26 rfl rfl (by first | exact Has.head | exact Has.tail Has.head | exact Has.tail (Has.tail Has.head) | exact Has.tail (Has.tail (Has.tail Has.head)) | exact Has.tail (Has.tail (Has.tail (Has.tail Has.head))) | exact Has.tail (Has.tail (Has.tail (Has.tail (Has.tail Has.head)))) | exact Has.tail (Has.tail (Has.tail (Has.tail (Has.tail (Has.tail Has.head)))))) rfl rfl ?_
            refine RW.buildSlc (out := b.cells) sl28 rfl rfl rfl (by kernel_rfl) (fun g61 hg61 hf61 => ?_)
            refine RW.append1 sl28 rfl rfl rfl Rem.head (fun _ => Upd.tail Upd.head) rfl (Enc.ones EBlk b) (by simp only [maxLen]; omega) (by omega) (fun v62 hv62 => ?_)
            refine RW.assign rfl rfl ?_
            refine RW.nil (EX.seq (CW.seq (CW.region ?_)))
            refine RW.move rfl rfl ?_
            refine RW.add rfl rfl rfl (wrap64 (by omega) (by omega)) ?_
            refine RW.assign rfl rfl ?_
            refine RW.nil (EX.seq (CW.region ?_))
            refine RW.move rfl rfl ?_
            refine RW.add rfl rfl rfl (wrap64 (by omega) (by omega)) ?_
            refine RW.assign rfl rfl ?_
            refine RW.nil (EX.bkN (EX.seq (CW.region ?_)))
            refine RW.move rfl rfl ?_
            refine RW.add rfl rfl rfl (wrap64 (by omega) (by omega)) ?_
            refine RW.assign rfl rfl ?_
            refine RW.nil ?_
            -- mq: loopend
            refine EX.lpN (i + 1, i + 1, ln + 1, v62, O ++ [b]) ⟨Nat.le_refl _, by dsimp only; omega, fun k hk1 hk2 => by dsimp only at hk1 hk2; omega, by dsimp only; omega, by dsimp only; simp; omega, by rw [hsp, hst2]⟩ (by dsimp only; omega) (by repeat (first | exact Sub.nil | refine Sub.cons (by rfl) ?_)) (fun w' hw' => ?_)
            dsimp only
            rw [Enc.all_snoc EBlk, List.length_append]
            exact hw'.rem Rem.head
      · skip
        obtain rfl : i = s.length := by omega
        refine CW.exit (EX.seqE (EX.lpE (EX.bkE (EX.seq (CW.seq (CW.seq (CW.region ?_)))))))
        refine RW.move rfl rfl ?_
        refine RW.move rfl rfl ?_
        refine RW.lenS Tryd.underlying9 rfl rfl ?_
        refine RW.lss rfl rfl rfl ?_
        refine RW.nil (EX.seq ?_)
        -- mq: cond
        first | refine CW.condD rfl (fun h4 => ?_) (fun h4 => ?_) | refine CW.cond rfl (fun h4 => ?_) (fun h4 => ?_)
        · skip
          have hr : readF 1 s = ([], ln, 4) := by
            rw [hsp, readF_none (fun e => by have := congrArg List.length e; rw [List.length_drop] at this; simp at this; omega) (no_mid hno), addF_err (by decide)]
          rw [hr] at hm
          rw [hr]
          dsimp only at hm ⊢
          refine CW.seq ?_
          -- mq: region
          refine CW.region ?_
          refine RW.move rfl rfl ?_
          refine RW.lenSl Tryd.underlying28 rfl rfl ?_
          refine RW.eqlI rfl rfl rfl ?_
          refine RW.move rfl rfl ?_
          refine RW.guardT rfl rfl (decide_eq_true (by rw [← hm]; rfl)) ?_
          refine RW.move rfl rfl ?_
          refine RW.guardT rfl rfl (decide_eq_true (by rw [← hm]; rfl)) ?_
          refine RW.move rfl rfl ?_
          refine RW.guardT rfl rfl (decide_eq_true (by rw [← hm]; rfl)) ?_
          refine RW.eqlI rfl rfl rfl ?_
          refine RW.pickB rfl rfl (decide_eq_true (by rw [← hm]; rfl)) rfl ?_
          refine RW.move rfl rfl ?_
          refine RW.guardT rfl rfl (decide_eq_true rfl) ?_
          refine RW.move rfl rfl ?_
          refine RW.guardT rfl rfl (decide_eq_true rfl) ?_
          refine RW.eqlI rfl rfl rfl ?_
          refine RW.pickB rfl rfl (decide_eq_true rfl) rfl ?_
          refine RW.assign rfl rfl ?_
          refine RW.nil (EX.seq (CW.ret (EX.seqR ?_)))
          refine EX.fin1 Tryd.results7 rfl (fun wz hw => ?_)
          -- mq: done
          exact ⟨rfl, (hw.rem Rem.head).unbase hx12 hcv |>.ext⟩
        · skip
          have hr : readF 1 s = (O, 0, 0) := by
            rw [hsp, List.drop_eq_nil_of_le (by omega), readF_nil, addF_ok]
          rw [hr] at hrd
          rw [hr]
          dsimp only at hrd ⊢
          refine CW.formOwn (v := v) Has.head (fun A9 c9 hv9 hcap9 hmax9 hlen9 hg9 => ?_)
          subst hv9
          refine CW.skip (EX.seq (CW.seq ?_))
          -- mq: region
          refine CW.region ?_
          refine RW.move rfl rfl ?_
          refine RW.eqlI rfl rfl rfl ?_
          refine RW.move rfl rfl ?_
          refine RW.guardT rfl rfl (decide_eq_true rfl) ?_
          refine RW.move rfl rfl ?_
          refine RW.guardT rfl rfl (decide_eq_true rfl) ?_
          refine RW.eqlI rfl rfl rfl ?_
          refine RW.pickB rfl rfl (decide_eq_true rfl) rfl ?_
          refine RW.move rfl rfl ?_
          refine RW.guardT rfl rfl (decide_eq_true rfl) ?_
          refine RW.move rfl rfl ?_
          refine RW.guardT rfl rfl (decide_eq_true rfl) ?_
          refine RW.move rfl rfl ?_
          refine RW.guardT rfl rfl (decide_eq_true rfl) ?_
          refine RW.call (v := .bool true) rfl ca21 rfl (fun w' hw' => by obtain ⟨A6, c6, he6, hrd6⟩ := Rd.of_own (E := EBlk) (hw'.has Has.head) rfl; cases he6; have h := Same_c w' _ _ A A9 m c O.length c9 O O (hrd.ext hw'.ext (by intro k hk hk2; cases hk2)) hrd6; rw [decide_eq_true rfl] at h; exact h) ?_
          refine RW.pickB rfl rfl (decide_eq_true rfl) rfl ?_
          refine RW.assign rfl rfl ?_
          refine RW.nil (EX.seq (CW.ret ?_))
          refine EX.fin1 Tryd.results7 rfl (fun wz hw => ?_)
          -- mq: done
          exact ⟨rfl, (hw.rem Rem.head).unbase hx12 hcv |>.ext⟩
end Go.Proofs.YtnkdabjahmjdoaaDoor.Mq
