/- tape: the reference's Parse (printed by gentpa.py) -/
import Derived.Test.YtnpafpnameleaaaDoorTp9
namespace Go.Proofs.YtnpafpnameleaaaDoor.Mq
open Go Go.RowKit Go.Proofs

theorem cutF_lt : ∀ s, (cutF s).2.2 = true → (cutF s).2.1.length < s.length
  | [], h => by cases h
  | c :: r, h => by
    unfold cutF at h ⊢
    split
    · simp
    · rename_i hc
      rw [if_neg hc] at h
      have := cutF_lt r h
      simp; omega
theorem full_headC (s : List UInt8) : (fullP 32 s).headD [] = (cutF s).1 := by rw [full_cutF]; split <;> rfl
theorem full_tailC (s : List UInt8) : (fullP 32 s).tail = if (cutF s).2.2 = true then fullP 32 (cutF s).2.1 else [] := by rw [full_cutF]; split <;> rfl
theorem refParse_c (w : World) (s : List UInt8) (hs : s.length ≤ 1000000) :
    Calls Tryd.prog 12 [.string (bs s)].toArray w (fun e w' => e = .returned (fillV (parseS s)) ∧ Ext [] w w') := by
  have hsm := full_mem 32 s
  have hfl := full_len 32 s
  have hcl := cutF_len s
  have hhd := full_headC s
  have htl := full_tailC s
  refine calls (n := 101) Tryd.func12 rfl Tryd.ntmps12 rfl ?_
  refine CW.sub (H' := SH w [] []) ?_ (Sub.refl _) (fun x hx => SH.start' _ _ hx)
  refine CW.seq (CW.region ?_)
  refine RW.allocA ag23 rfl (fun g2 hg2 hf2 => ?_)
  refine RW.assign rfl rfl ?_
  refine RW.nil (EX.seq (CW.seq ?_))
  -- mq: region
  refine CW.region ?_
  refine RW.move rfl rfl ?_
  refine RW.call rfl ca28 rfl (fun w' _ => word_c w' s hs) ?_
  refine RW.move rfl rfl ?_
  refine RW.extract rfl rfl rfl ?_
  refine RW.extract rfl rfl rfl ?_
  refine RW.extract rfl rfl rfl ?_
  refine RW.assign rfl rfl ?_
  refine RW.assign rfl rfl ?_
  refine RW.assign rfl rfl ?_
  refine RW.nil (EX.seq (CW.seq (CW.seq (CW.region ?_))))
  refine RW.assign rfl rfl ?_
  refine RW.nil (EX.seq (CW.block ?_))
  -- mq: loop
  refine CW.loop (ι := Nat) (fun k => [(2, .pointer (some ⟨g2, 0, none⟩)), (4, .string (bs (cutF s).1)), (5, .string (bs (cutF s).2.1)), (6, .bool (cutF s).2.2), (7, .int .i64 (k : Int))]) (fun _ => SH w [] [blk g2 [.int .i64 0, .int .i64 0, .int .i64 0, .string (bs [])] 23]) (fun k => k ≤ 7 ∧ ∀ j, j < k → wordsK.getD j [] ≠ (fullP 32 s).headD []) (fun k => 7 - k) ?_ ?_
  · exact fun w' hw' => ⟨0, ⟨Nat.zero_le _, fun j hj => absurd hj (Nat.not_lt_zero _)⟩, (by repeat (first | exact Sub.nil | refine Sub.cons (by rfl) ?_)), hw'⟩
  · rintro k ⟨hk, hno⟩
    refine CW.seq (CW.seq (CW.region ?_))
    refine RW.move rfl rfl ?_
    refine RW.lss rfl rfl rfl ?_
    refine RW.nil (EX.seq ?_)
    -- mq: cond
    first | refine CW.condD rfl (fun hlt => ?_) (fun hlt => ?_) | refine CW.cond rfl (fun hlt => ?_) (fun hlt => ?_)
    · skip
      have hk7 : k < 7 := by omega
      refine CW.skip (EX.seq (CW.seq (CW.block (CW.seq (CW.seq (CW.region ?_))))))
      -- mq: op 0: ('Op.call', ('Call.mk', ('Callee.value', ('Operand.func', '22')), ('arr',), ('arr',))) -> slot 26 ("ref.go:130")
      refine RW.callK rfl ca22 rfl (fun w' _ => words_c w') (fun w2 w3 A4 n4 c4 hw2 he23 hw3 hlt3 hrd4 => ?_)
      have hn4 := hrd4.len
      have hn7 : wordsK.length = 7 := rfl
      have hx13 : Ext [] w w3 := hw2.ext.trans0 he23
      have hcv := hw2.cov
      obtain ⟨ad, hA, hAd, hcell⟩ := hrd4.at_ (wordsK_at k hk7)
      refine RW.move rfl rfl ?_
      refine RW.ixAddr (q := k) sl50 rfl rfl rfl (by first | rfl | assumption) (by omega) (by omega) ?_
      refine RW.load1 sc9 rfl rfl (fun w' hw' => hw'.base_cell (hcell 0 _ rfl) (fun hk2 => by have := hlt3 _ hk2; rw [block_add] at this; omega)) ?_
      refine RW.move rfl rfl ?_
      refine RW.neqS rfl rfl rfl ?_
      refine RW.nil (EX.seq ?_)
      -- mq: cond
      first | refine CW.condD rfl (fun hne => ?_) (fun hne => ?_) | refine CW.cond rfl (fun hne => ?_) (fun hne => ?_)
      · skip
        refine CW.exit (EX.seqE (EX.bkE (EX.seq (CW.region ?_))))
        refine RW.move rfl rfl ?_
        refine RW.add rfl rfl rfl (wrap64 (by omega) (by omega)) ?_
        refine RW.assign rfl rfl ?_
        refine RW.nil ?_
        -- mq: loopend
        refine EX.lpN (k + 1) ⟨by omega, fun j hj => ?_⟩ (by omega) (by repeat (first | exact Sub.nil | refine Sub.cons (by rfl) ?_)) (fun w' hw' => hw'.unbase hx13 hcv)
        rcases Nat.lt_succ_iff_lt_or_eq.1 hj with h | rfl
        · exact hno j h
        · rw [hhd]; exact hne
      · skip
        have heq : wordsK.getD k [] = (fullP 32 s).headD [] := by rw [hhd]; exact Decidable.not_not.1 hne
        have hps := parse_some hk7 heq
        refine CW.skip (EX.seq (CW.seq (CW.region ?_)))
        refine RW.move rfl rfl ?_
        refine RW.buildS bu23 rfl rfl rfl ?_
        refine RW.allocA ag23 rfl (fun g8 hg8 hf8 => ?_)
        refine RW.storeA ag23 rfl rfl (by first | exact Upd.head | exact Upd.tail Upd.head | exact Upd.tail (Upd.tail Upd.head) | exact Upd.tail (Upd.tail (Upd.tail Upd.head)) | exact Upd.tail (Upd.tail (Upd.tail (Upd.tail Upd.head))) | exact Upd.tail (Upd.tail (Upd.tail (Upd.tail (Upd.tail Upd.head)))) | exact Upd.tail (Upd.tail (Upd.tail (Upd.tail (Upd.tail (Upd.tail Upd.head)))))) (by first | rfl | exact Enc.len _ _) (by repeat (first | exact Ones.nil | exact Enc.ones _ _ | refine Ones.cons rfl ?_)) (by first | exact Nat.le_of_ble_eq_true rfl | (simp only [Enc.len]; decide)) ?_
        refine RW.nil (EX.seq (CW.seq ?_))
        -- mq: region
        refine CW.region ?_
        refine RW.assign rfl rfl ?_
        refine RW.nil (EX.seq (CW.seq (CW.block ?_)))
        -- mq: loop
        refine CW.ownNil 9 1 ?_
        refine CW.loop (ι := Value × List (List UInt8) × List UInt8 × Bool) (fun t => [(2, .pointer (some ⟨g2, 0, none⟩)), (5, .string (bs t.2.2.1)), (6, .bool t.2.2.2), (7, .int .i64 (k : Int)), (8, .pointer (some ⟨g8, 0, none⟩)), (9, t.1)]) (fun t => SH w3 (feet [blk g2 [.int .i64 0, .int .i64 0, .int .i64 0, .string (bs [])] 23]) [own 9 1 t.1 t.2.1.length (EStr.all t.2.1), blk g8 [.int .i64 (k : Int), .int .i64 0, .int .i64 0, .string (bs [])] 23, blk g2 [.int .i64 0, .int .i64 0, .int .i64 0, .string (bs [])] 23]) (fun t => t.2.2.1.length ≤ s.length ∧ (fullP 32 s).tail = t.2.1 ++ (if t.2.2.2 = true then fullP 32 t.2.2.1 else [])) (fun t => if t.2.2.2 = true then t.2.2.1.length + 1 else 0) ?_ ?_
        · exact fun w' hw' => ⟨(_, [], (cutF s).2.1, (cutF s).2.2), ⟨hcl.2, by rw [htl]; rfl⟩, (by repeat (first | exact Sub.nil | refine Sub.cons (by rfl) ?_)), hw'⟩
        · rintro ⟨v, O, r, more⟩ ⟨hr, hsp⟩
          dsimp only at hr hsp ⊢
          have hOl : O.length ≤ s.length + 1 := by
            have := congrArg List.length hsp
            rw [List.length_append, List.length_tail] at this; omega
          refine CW.seq (CW.seq (CW.region ?_))
          refine RW.move rfl rfl ?_
          refine RW.nil (EX.seq ?_)
          -- mq: cond
          cases more with
          | true =>
            refine CW.condT rfl (rfl) ?_
            have hcr := cutF_len r
            have hclt := cutF_lt r
            have hfr := full_cutF r
            rw [if_pos rfl] at hsp
            refine CW.skip (EX.seq (CW.block (CW.seq (CW.region ?_))))
            refine RW.assign rfl rfl ?_
            refine RW.nil (EX.seq (CW.seq ?_))
            -- mq: region
            refine CW.region ?_
            refine RW.move rfl rfl ?_
            refine RW.call rfl ca28 rfl (fun w' _ => word_c w' r (by omega)) ?_
            refine RW.move rfl rfl ?_
            refine RW.extract rfl rfl rfl ?_
            refine RW.extract rfl rfl rfl ?_
            refine RW.extract rfl rfl rfl ?_
            refine RW.assign rfl rfl ?_
            refine RW.assign rfl rfl ?_
            refine RW.assign rfl rfl ?_
            refine RW.nil (EX.seq (CW.region ?_))
            refine RW.move rfl rfl ?_
            refine RW.move rfl rfl ?_
            refine RW.buildSlc sl50 rfl rfl rfl rfl (fun g43 hg43 hf43 => ?_)
            refine RW.append1 sl50 rfl rfl rfl (by first | exact Rem.head | exact Rem.tail Rem.head | exact Rem.tail (Rem.tail Rem.head) | exact Rem.tail (Rem.tail (Rem.tail Rem.head)) | exact Rem.tail (Rem.tail (Rem.tail (Rem.tail Rem.head))) | exact Rem.tail (Rem.tail (Rem.tail (Rem.tail (Rem.tail Rem.head)))) | exact Rem.tail (Rem.tail (Rem.tail (Rem.tail (Rem.tail (Rem.tail Rem.head)))))) (fun _ => by first | exact Upd.head | exact Upd.tail Upd.head | exact Upd.tail (Upd.tail Upd.head) | exact Upd.tail (Upd.tail (Upd.tail Upd.head)) | exact Upd.tail (Upd.tail (Upd.tail (Upd.tail Upd.head))) | exact Upd.tail (Upd.tail (Upd.tail (Upd.tail (Upd.tail Upd.head)))) | exact Upd.tail (Upd.tail (Upd.tail (Upd.tail (Upd.tail (Upd.tail Upd.head)))))) rfl (by repeat (first | exact Ones.nil | exact Enc.ones _ _ | refine Ones.cons rfl ?_)) (by simp only [maxLen]; omega) (by omega) (fun v44 hv44 => ?_)
            refine RW.assign rfl rfl ?_
            refine RW.nil (EX.bkN ?_)
            -- mq: loopend
            refine EX.lpN (v44, O ++ [(cutF r).1], (cutF r).2.1, (cutF r).2.2) ⟨by dsimp only; omega, ?_⟩ ?_ (by repeat (first | exact Sub.nil | refine Sub.cons (by rfl) ?_)) (fun w' hw' => ?_)
            · dsimp only
              rw [hsp, hfr]
              cases (cutF r).2.2 <;> simp
            · dsimp only
              cases hm : (cutF r).2.2 with
              | true => rw [if_pos rfl, if_pos rfl]; have := hclt hm; omega
              | false => rw [if_neg (by decide), if_pos rfl]; omega
            · dsimp only
              rw [Enc.all_snoc EStr, List.length_append]
              exact hw'
          | false =>
            refine CW.condF rfl (rfl) ?_
            rw [if_neg (by decide), List.append_nil] at hsp
            rw [hsp] at hps
            have hsz : ∀ x ∈ O, x.length ≤ 1000000 := fun x hx => by have := (hsm x (List.mem_of_mem_tail (hsp ▸ hx))).2; omega
            clear hsp
            refine CW.formOwn (v := v) Has.head (fun A9 c9 hv9 hcap9 hmax9 hlen9 hg9 => ?_)
            subst hv9
            rcases combo k hk7 with ⟨hn, hh⟩ | ⟨hn, hh⟩ | ⟨hn, hh⟩ | ⟨hn, hh⟩
            · skip
              refine CW.exit (EX.seqE (EX.lpE (EX.bkE (EX.seq (CW.seq ?_)))))
              -- mq: region
              refine CW.region ?_
              refine RW.move rfl rfl ?_
              refine RW.call (v := .int .i64 0) rfl ca23 rfl (fun w' _ => by have h := nums_c w' k hk7; rw [hn] at h; exact h) ?_
              refine RW.assign rfl rfl ?_
              refine RW.nil (EX.seq (CW.seq (CW.region ?_)))
              refine RW.move rfl rfl ?_
              refine RW.assign rfl rfl ?_
              refine RW.nil (EX.seq (CW.seq (CW.seq ?_)))
              -- mq: region
              refine CW.region ?_
              refine RW.move rfl rfl ?_
              refine RW.call (v := .bool true) rfl ca24 rfl (fun w' _ => by have h := has_c w' k hk7; rw [hh] at h; exact h) ?_
              refine RW.nil (EX.seq ?_)
              -- mq: cond
              refine CW.condT rfl (rfl) ?_
              refine CW.region ?_
              refine RW.move rfl rfl ?_
              refine RW.add rfl rfl rfl (wrap64 (by omega) (by omega)) ?_
              refine RW.assign rfl rfl ?_
              refine RW.nil (EX.seq (CW.seq (CW.seq (CW.region ?_))))
              refine RW.move rfl rfl ?_
              refine RW.lenSl Tryd.underlying50 rfl rfl ?_
              refine RW.move rfl rfl ?_
              refine RW.neqI rfl rfl rfl ?_
              refine RW.nil (EX.seq ?_)
              -- mq: cond
              first | refine CW.condD rfl (fun hle => ?_) (fun hle => ?_) | refine CW.cond rfl (fun hle => ?_) (fun hle => ?_)
              · skip
                refine CW.seq (CW.region ?_)
                refine RW.buildS bu23 rfl rfl rfl ?_
                refine RW.storeA ag23 rfl rfl (by first | exact Upd.head | exact Upd.tail Upd.head | exact Upd.tail (Upd.tail Upd.head) | exact Upd.tail (Upd.tail (Upd.tail Upd.head)) | exact Upd.tail (Upd.tail (Upd.tail (Upd.tail Upd.head))) | exact Upd.tail (Upd.tail (Upd.tail (Upd.tail (Upd.tail Upd.head)))) | exact Upd.tail (Upd.tail (Upd.tail (Upd.tail (Upd.tail (Upd.tail Upd.head)))))) (by first | rfl | exact Enc.len _ _) (by repeat (first | exact Ones.nil | exact Enc.ones _ _ | refine Ones.cons rfl ?_)) (by first | exact Nat.le_of_ble_eq_true rfl | (simp only [Enc.len]; decide)) ?_
                refine RW.assign rfl rfl ?_
                refine RW.nil (EX.seq (CW.ret (EX.seqR (EX.bkR (EX.seqR (EX.lpR (EX.bkR (EX.seqR ?_))))))))
                refine EX.fin2' Tryd.results12 (RV.cellA ag23 rfl (by first | exact Has.head | exact Has.tail Has.head | exact Has.tail (Has.tail Has.head) | exact Has.tail (Has.tail (Has.tail Has.head)) | exact Has.tail (Has.tail (Has.tail (Has.tail Has.head))) | exact Has.tail (Has.tail (Has.tail (Has.tail (Has.tail Has.head)))) | exact Has.tail (Has.tail (Has.tail (Has.tail (Has.tail (Has.tail Has.head)))))) rfl rfl) (RV.tmp rfl) (fun wz hw => ?_)
                -- mq: done
                exact ⟨by rw [hps, fill_len hn hh (by show O.length ≠ 1; omega)]; rfl, (((hw.rem Rem.head).rem Rem.head).unbase hx13 hcv).ext⟩
              · skip
                have hOL : O.length = 1 := by omega
                obtain ⟨g9, rfl⟩ := hg9 (by omega)
                refine CW.skip (EX.seq (CW.seq (CW.region ?_)))
                refine RW.assign rfl rfl ?_
                refine RW.nil (EX.seq (CW.seq (CW.seq (CW.region ?_))))
                refine RW.move rfl rfl ?_
                refine RW.gtr rfl rfl rfl ?_
                refine RW.nil (EX.seq ?_)
                -- mq: cond
                refine CW.condF rfl (rfl) ?_
                refine CW.skip (EX.seq (CW.seq (CW.seq (CW.region ?_))))
                refine RW.move rfl rfl ?_
                refine RW.gtr rfl rfl rfl ?_
                refine RW.move rfl rfl ?_
                refine RW.guardF rfl rfl rfl rfl ?_
                refine RW.pickC rfl rfl rfl rfl ?_
                refine RW.nil (EX.seq ?_)
                -- mq: cond
                refine CW.condF rfl (rfl) ?_
                refine CW.skip (EX.seq (CW.seq (CW.seq (CW.region ?_))))
                refine RW.move rfl rfl ?_
                refine RW.not_ rfl rfl ?_
                refine RW.nil (EX.seq ?_)
                -- mq: cond
                refine CW.condF rfl (rfl) ?_
                refine CW.skip (EX.seq (CW.seq (CW.seq ?_)))
                -- mq: region
                refine CW.region ?_
                refine RW.move rfl rfl ?_
                refine RW.call (v := .bool true) rfl ca24 rfl (fun w' _ => by have h := has_c w' k hk7; rw [hh] at h; exact h) ?_
                refine RW.nil (EX.seq ?_)
                -- mq: cond
                have hf := fill_ok hn hh (by show O.length = 1; omega) rfl rfl
                rw [hf] at hps
                refine CW.condT rfl (rfl) ?_
                have hwz := hsz _ (getD_mem (i := 0) (L := O) (by omega))
                refine CW.seq (CW.region ?_)
                refine RW.move rfl rfl ?_
                refine RW.move rfl rfl ?_
                refine RW.ixAddr (q := 0) sl50 rfl rfl rfl (by first | rfl | assumption) (by omega) (by omega) ?_
                refine RW.load1 sc9 rfl rfl (fun w' hw' => hw'.own_at (E := EStr) Has.head (getD_at (i := 0) (L := O) (by omega)) 0 _ rfl) ?_
                refine RW.call rfl ca30 rfl (fun w' _ => refData_c w' (O.getD 0 []) hwz) ?_
                refine RW.move rfl rfl ?_
                refine RW.extract rfl rfl rfl ?_
                refine RW.extract rfl rfl rfl ?_
                refine RW.assign rfl rfl ?_
                refine RW.assign rfl rfl ?_
                refine RW.nil (EX.seq (CW.seq (CW.seq (CW.region ?_))))
                refine RW.move rfl rfl ?_
                refine RW.neqI rfl rfl rfl ?_
                refine RW.nil (EX.seq ?_)
                -- mq: cond
                first | refine CW.condD rfl (fun h9 => ?_) (fun h9 => ?_) | refine CW.cond rfl (fun h9 => ?_) (fun h9 => ?_)
                · skip
                  refine CW.seq (CW.region ?_)
                  refine RW.buildS bu23 rfl rfl rfl ?_
                  refine RW.move rfl rfl ?_
                  refine RW.storeA ag23 rfl rfl (by first | exact Upd.head | exact Upd.tail Upd.head | exact Upd.tail (Upd.tail Upd.head) | exact Upd.tail (Upd.tail (Upd.tail Upd.head)) | exact Upd.tail (Upd.tail (Upd.tail (Upd.tail Upd.head))) | exact Upd.tail (Upd.tail (Upd.tail (Upd.tail (Upd.tail Upd.head)))) | exact Upd.tail (Upd.tail (Upd.tail (Upd.tail (Upd.tail (Upd.tail Upd.head)))))) (by first | rfl | exact Enc.len _ _) (by repeat (first | exact Ones.nil | exact Enc.ones _ _ | refine Ones.cons rfl ?_)) (by first | exact Nat.le_of_ble_eq_true rfl | (simp only [Enc.len]; decide)) ?_
                  refine RW.assign rfl rfl ?_
                  refine RW.nil (EX.seq (CW.ret (EX.seqR (EX.seqR (EX.bkR (EX.seqR (EX.lpR (EX.bkR (EX.seqR ?_)))))))))
                  refine EX.fin2' Tryd.results12 (RV.cellA ag23 rfl (by first | exact Has.head | exact Has.tail Has.head | exact Has.tail (Has.tail Has.head) | exact Has.tail (Has.tail (Has.tail Has.head)) | exact Has.tail (Has.tail (Has.tail (Has.tail Has.head))) | exact Has.tail (Has.tail (Has.tail (Has.tail (Has.tail Has.head)))) | exact Has.tail (Has.tail (Has.tail (Has.tail (Has.tail (Has.tail Has.head)))))) rfl rfl) (RV.tmp rfl) (fun wz hw => ?_)
                  -- mq: done
                  exact ⟨by rw [hps, if_pos rfl, if_neg (by omega)]; rfl, (((hw.rem Rem.head).rem Rem.head).unbase hx13 hcv).ext⟩
                · skip
                  refine CW.skip (EX.seq (CW.region ?_))
                  refine RW.move rfl rfl ?_
                  refine RW.fieldB fl23x3 rfl rfl ?_
                  refine RW.store1 sc9 rfl rfl (by first | exact Upd.head | exact Upd.tail Upd.head | exact Upd.tail (Upd.tail Upd.head) | exact Upd.tail (Upd.tail (Upd.tail Upd.head)) | exact Upd.tail (Upd.tail (Upd.tail (Upd.tail Upd.head))) | exact Upd.tail (Upd.tail (Upd.tail (Upd.tail (Upd.tail Upd.head)))) | exact Upd.tail (Upd.tail (Upd.tail (Upd.tail (Upd.tail (Upd.tail Upd.head)))))) rfl (by first | exact Nat.le_of_ble_eq_true rfl | simp) ?_
                  refine RW.nil (EX.seq (CW.seq (CW.region ?_)))
                  refine RW.loadBA ag23 rfl rfl (by first | exact Has.head | exact Has.tail Has.head | exact Has.tail (Has.tail Has.head) | exact Has.tail (Has.tail (Has.tail Has.head)) | exact Has.tail (Has.tail (Has.tail (Has.tail Has.head))) | exact Has.tail (Has.tail (Has.tail (Has.tail (Has.tail Has.head)))) | exact Has.tail (Has.tail (Has.tail (Has.tail (Has.tail (Has.tail Has.head)))))) rfl rfl ?_
                  refine RW.storeA ag23 rfl rfl (by first | exact Upd.head | exact Upd.tail Upd.head | exact Upd.tail (Upd.tail Upd.head) | exact Upd.tail (Upd.tail (Upd.tail Upd.head)) | exact Upd.tail (Upd.tail (Upd.tail (Upd.tail Upd.head))) | exact Upd.tail (Upd.tail (Upd.tail (Upd.tail (Upd.tail Upd.head)))) | exact Upd.tail (Upd.tail (Upd.tail (Upd.tail (Upd.tail (Upd.tail Upd.head)))))) (by first | rfl | exact Enc.len _ _) (by repeat (first | exact Ones.nil | exact Enc.ones _ _ | refine Ones.cons rfl ?_)) (by first | exact Nat.le_of_ble_eq_true rfl | (simp only [Enc.len]; decide)) ?_
                  refine RW.assign rfl rfl ?_
                  refine RW.nil (EX.seq (CW.ret (EX.bkR (EX.seqR (EX.lpR (EX.bkR (EX.seqR ?_)))))))
                  refine EX.fin2' Tryd.results12 (RV.cellA ag23 rfl (by first | exact Has.head | exact Has.tail Has.head | exact Has.tail (Has.tail Has.head) | exact Has.tail (Has.tail (Has.tail Has.head)) | exact Has.tail (Has.tail (Has.tail (Has.tail Has.head))) | exact Has.tail (Has.tail (Has.tail (Has.tail (Has.tail Has.head)))) | exact Has.tail (Has.tail (Has.tail (Has.tail (Has.tail (Has.tail Has.head)))))) rfl rfl) (RV.tmp rfl) (fun wz hw => ?_)
                  -- mq: done
                  exact ⟨by rw [hps, if_pos rfl, if_pos (by omega)]; rfl, (((hw.rem Rem.head).rem Rem.head).unbase hx13 hcv).ext⟩
            · skip
              refine CW.exit (EX.seqE (EX.lpE (EX.bkE (EX.seq (CW.seq ?_)))))
              -- mq: region
              refine CW.region ?_
              refine RW.move rfl rfl ?_
              refine RW.call (v := .int .i64 2) rfl ca23 rfl (fun w' _ => by have h := nums_c w' k hk7; rw [hn] at h; exact h) ?_
              refine RW.assign rfl rfl ?_
              refine RW.nil (EX.seq (CW.seq (CW.region ?_)))
              refine RW.move rfl rfl ?_
              refine RW.assign rfl rfl ?_
              refine RW.nil (EX.seq (CW.seq (CW.seq ?_)))
              -- mq: region
              refine CW.region ?_
              refine RW.move rfl rfl ?_
              refine RW.call (v := .bool false) rfl ca24 rfl (fun w' _ => by have h := has_c w' k hk7; rw [hh] at h; exact h) ?_
              refine RW.nil (EX.seq ?_)
              -- mq: cond
              refine CW.condF rfl (rfl) ?_
              refine CW.skip (EX.seq (CW.seq (CW.seq (CW.region ?_))))
              refine RW.move rfl rfl ?_
              refine RW.lenSl Tryd.underlying50 rfl rfl ?_
              refine RW.move rfl rfl ?_
              refine RW.neqI rfl rfl rfl ?_
              refine RW.nil (EX.seq ?_)
              -- mq: cond
              first | refine CW.condD rfl (fun hle => ?_) (fun hle => ?_) | refine CW.cond rfl (fun hle => ?_) (fun hle => ?_)
              · skip
                refine CW.seq (CW.region ?_)
                refine RW.buildS bu23 rfl rfl rfl ?_
                refine RW.storeA ag23 rfl rfl (by first | exact Upd.head | exact Upd.tail Upd.head | exact Upd.tail (Upd.tail Upd.head) | exact Upd.tail (Upd.tail (Upd.tail Upd.head)) | exact Upd.tail (Upd.tail (Upd.tail (Upd.tail Upd.head))) | exact Upd.tail (Upd.tail (Upd.tail (Upd.tail (Upd.tail Upd.head)))) | exact Upd.tail (Upd.tail (Upd.tail (Upd.tail (Upd.tail (Upd.tail Upd.head)))))) (by first | rfl | exact Enc.len _ _) (by repeat (first | exact Ones.nil | exact Enc.ones _ _ | refine Ones.cons rfl ?_)) (by first | exact Nat.le_of_ble_eq_true rfl | (simp only [Enc.len]; decide)) ?_
                refine RW.assign rfl rfl ?_
                refine RW.nil (EX.seq (CW.ret (EX.seqR (EX.bkR (EX.seqR (EX.lpR (EX.bkR (EX.seqR ?_))))))))
                refine EX.fin2' Tryd.results12 (RV.cellA ag23 rfl (by first | exact Has.head | exact Has.tail Has.head | exact Has.tail (Has.tail Has.head) | exact Has.tail (Has.tail (Has.tail Has.head)) | exact Has.tail (Has.tail (Has.tail (Has.tail Has.head))) | exact Has.tail (Has.tail (Has.tail (Has.tail (Has.tail Has.head)))) | exact Has.tail (Has.tail (Has.tail (Has.tail (Has.tail (Has.tail Has.head)))))) rfl rfl) (RV.tmp rfl) (fun wz hw => ?_)
                -- mq: done
                exact ⟨by rw [hps, fill_len hn hh (by show O.length ≠ 2; omega)]; rfl, (((hw.rem Rem.head).rem Rem.head).unbase hx13 hcv).ext⟩
              · skip
                have hOL : O.length = 2 := by omega
                obtain ⟨g9, rfl⟩ := hg9 (by omega)
                refine CW.skip (EX.seq (CW.seq (CW.region ?_)))
                refine RW.assign rfl rfl ?_
                refine RW.nil (EX.seq (CW.seq (CW.seq (CW.region ?_))))
                refine RW.move rfl rfl ?_
                refine RW.gtr rfl rfl rfl ?_
                refine RW.nil (EX.seq ?_)
                -- mq: cond
                refine CW.condT rfl (rfl) ?_
                cases hz0 : numF (O.getD 0 []) with
                | none =>
                  -- mq: region
                  have hwz := hsz _ (getD_mem (i := 0) (L := O) (by omega))
                  refine CW.region ?_
                  refine RW.move rfl rfl ?_
                  refine RW.ixAddr (q := 0) sl50 rfl rfl rfl (by first | rfl | assumption) (by omega) (by omega) ?_
                  refine RW.load1 sc9 rfl rfl (fun w' hw' => hw'.own_at (E := EStr) Has.head (getD_at (i := 0) (L := O) (by omega)) 0 _ rfl) ?_
                  refine RW.call rfl ca29 rfl (fun w' _ => by have h := refNum_c w' (O.getD 0 []) hwz; rw [numW, hz0] at h; exact h) ?_
                  refine RW.move rfl rfl ?_
                  refine RW.extract rfl rfl rfl ?_
                  refine RW.extract rfl rfl rfl ?_
                  refine RW.fieldB fl23x1 rfl rfl ?_
                  refine RW.store1 sc3 rfl rfl (by first | exact Upd.head | exact Upd.tail Upd.head | exact Upd.tail (Upd.tail Upd.head) | exact Upd.tail (Upd.tail (Upd.tail Upd.head)) | exact Upd.tail (Upd.tail (Upd.tail (Upd.tail Upd.head))) | exact Upd.tail (Upd.tail (Upd.tail (Upd.tail (Upd.tail Upd.head)))) | exact Upd.tail (Upd.tail (Upd.tail (Upd.tail (Upd.tail (Upd.tail Upd.head)))))) rfl (by first | exact Nat.le_of_ble_eq_true rfl | simp) ?_
                  refine RW.assign rfl rfl ?_
                  refine RW.nil (EX.seq (CW.seq (CW.seq (CW.region ?_))))
                  refine RW.move rfl rfl ?_
                  refine RW.gtr rfl rfl rfl ?_
                  refine RW.move rfl rfl ?_
                  -- mq: guard slot 69
                  refine RW.guardT rfl rfl rfl ?_
                  refine RW.move rfl rfl ?_
                  refine RW.pickB rfl rfl rfl rfl ?_
                  refine RW.nil (EX.seq ?_)
                  -- mq: cond
                  refine CW.condF rfl (rfl) ?_
                  refine CW.skip (EX.seq (CW.seq (CW.seq (CW.region ?_))))
                  refine RW.move rfl rfl ?_
                  refine RW.not_ rfl rfl ?_
                  refine RW.nil (EX.seq ?_)
                  -- mq: cond
                  refine CW.condT rfl (rfl) ?_
                  refine CW.seq (CW.region ?_)
                  refine RW.buildS bu23 rfl rfl rfl ?_
                  refine RW.storeA ag23 rfl rfl (by first | exact Upd.head | exact Upd.tail Upd.head | exact Upd.tail (Upd.tail Upd.head) | exact Upd.tail (Upd.tail (Upd.tail Upd.head)) | exact Upd.tail (Upd.tail (Upd.tail (Upd.tail Upd.head))) | exact Upd.tail (Upd.tail (Upd.tail (Upd.tail (Upd.tail Upd.head)))) | exact Upd.tail (Upd.tail (Upd.tail (Upd.tail (Upd.tail (Upd.tail Upd.head)))))) (by first | rfl | exact Enc.len _ _) (by repeat (first | exact Ones.nil | exact Enc.ones _ _ | refine Ones.cons rfl ?_)) (by first | exact Nat.le_of_ble_eq_true rfl | (simp only [Enc.len]; decide)) ?_
                  refine RW.assign rfl rfl ?_
                  refine RW.nil (EX.seq (CW.ret (EX.seqR (EX.bkR (EX.seqR (EX.lpR (EX.bkR (EX.seqR ?_))))))))
                  refine EX.fin2' Tryd.results12 (RV.cellA ag23 rfl (by first | exact Has.head | exact Has.tail Has.head | exact Has.tail (Has.tail Has.head) | exact Has.tail (Has.tail (Has.tail Has.head)) | exact Has.tail (Has.tail (Has.tail (Has.tail Has.head))) | exact Has.tail (Has.tail (Has.tail (Has.tail (Has.tail Has.head)))) | exact Has.tail (Has.tail (Has.tail (Has.tail (Has.tail (Has.tail Has.head)))))) rfl rfl) (RV.tmp rfl) (fun wz hw => ?_)
                  -- mq: done
                  exact ⟨by rw [hps, fill_no1 (by omega) hz0]; rfl, (((hw.rem Rem.head).rem Rem.head).unbase hx13 hcv).ext⟩
                | some y0 =>
                  -- mq: region
                  have hwz := hsz _ (getD_mem (i := 0) (L := O) (by omega))
                  refine CW.region ?_
                  refine RW.move rfl rfl ?_
                  refine RW.ixAddr (q := 0) sl50 rfl rfl rfl (by first | rfl | assumption) (by omega) (by omega) ?_
                  refine RW.load1 sc9 rfl rfl (fun w' hw' => hw'.own_at (E := EStr) Has.head (getD_at (i := 0) (L := O) (by omega)) 0 _ rfl) ?_
                  refine RW.call rfl ca29 rfl (fun w' _ => by have h := refNum_c w' (O.getD 0 []) hwz; rw [numW, hz0] at h; exact h) ?_
                  refine RW.move rfl rfl ?_
                  refine RW.extract rfl rfl rfl ?_
                  refine RW.extract rfl rfl rfl ?_
                  refine RW.fieldB fl23x1 rfl rfl ?_
                  refine RW.store1 sc3 rfl rfl (by first | exact Upd.head | exact Upd.tail Upd.head | exact Upd.tail (Upd.tail Upd.head) | exact Upd.tail (Upd.tail (Upd.tail Upd.head)) | exact Upd.tail (Upd.tail (Upd.tail (Upd.tail Upd.head))) | exact Upd.tail (Upd.tail (Upd.tail (Upd.tail (Upd.tail Upd.head)))) | exact Upd.tail (Upd.tail (Upd.tail (Upd.tail (Upd.tail (Upd.tail Upd.head)))))) rfl (by first | exact Nat.le_of_ble_eq_true rfl | simp) ?_
                  refine RW.assign rfl rfl ?_
                  refine RW.nil (EX.seq (CW.seq (CW.seq (CW.region ?_))))
                  refine RW.move rfl rfl ?_
                  refine RW.gtr rfl rfl rfl ?_
                  refine RW.move rfl rfl ?_
                  -- mq: guard slot 69
                  refine RW.guardT rfl rfl rfl ?_
                  refine RW.move rfl rfl ?_
                  refine RW.pickB rfl rfl rfl rfl ?_
                  refine RW.nil (EX.seq ?_)
                  -- mq: cond
                  refine CW.condT rfl (rfl) ?_
                  cases hz1 : numF (O.getD 1 []) with
                  | none =>
                    -- mq: region
                    have hwz := hsz _ (getD_mem (i := 1) (L := O) (by omega))
                    refine CW.region ?_
                    refine RW.move rfl rfl ?_
                    refine RW.ixAddr (q := 1) sl50 rfl rfl rfl (by first | rfl | assumption) (by omega) (by omega) ?_
                    refine RW.load1 sc9 rfl rfl (fun w' hw' => hw'.own_at (E := EStr) Has.head (getD_at (i := 1) (L := O) (by omega)) 0 _ rfl) ?_
                    refine RW.call rfl ca29 rfl (fun w' _ => by have h := refNum_c w' (O.getD 1 []) hwz; rw [numW, hz1] at h; exact h) ?_
                    refine RW.move rfl rfl ?_
                    refine RW.extract rfl rfl rfl ?_
                    refine RW.extract rfl rfl rfl ?_
                    refine RW.fieldB fl23x2 rfl rfl ?_
                    refine RW.store1 sc3 rfl rfl (by first | exact Upd.head | exact Upd.tail Upd.head | exact Upd.tail (Upd.tail Upd.head) | exact Upd.tail (Upd.tail (Upd.tail Upd.head)) | exact Upd.tail (Upd.tail (Upd.tail (Upd.tail Upd.head))) | exact Upd.tail (Upd.tail (Upd.tail (Upd.tail (Upd.tail Upd.head)))) | exact Upd.tail (Upd.tail (Upd.tail (Upd.tail (Upd.tail (Upd.tail Upd.head)))))) rfl (by first | exact Nat.le_of_ble_eq_true rfl | simp) ?_
                    refine RW.assign rfl rfl ?_
                    refine RW.nil (EX.seq (CW.seq (CW.seq (CW.region ?_))))
                    refine RW.move rfl rfl ?_
                    refine RW.not_ rfl rfl ?_
                    refine RW.nil (EX.seq ?_)
                    -- mq: cond
                    -- mq: cond
                    refine CW.condT rfl (rfl) ?_
                    refine CW.seq (CW.region ?_)
                    refine RW.buildS bu23 rfl rfl rfl ?_
                    refine RW.storeA ag23 rfl rfl (by first | exact Upd.head | exact Upd.tail Upd.head | exact Upd.tail (Upd.tail Upd.head) | exact Upd.tail (Upd.tail (Upd.tail Upd.head)) | exact Upd.tail (Upd.tail (Upd.tail (Upd.tail Upd.head))) | exact Upd.tail (Upd.tail (Upd.tail (Upd.tail (Upd.tail Upd.head)))) | exact Upd.tail (Upd.tail (Upd.tail (Upd.tail (Upd.tail (Upd.tail Upd.head)))))) (by first | rfl | exact Enc.len _ _) (by repeat (first | exact Ones.nil | exact Enc.ones _ _ | refine Ones.cons rfl ?_)) (by first | exact Nat.le_of_ble_eq_true rfl | (simp only [Enc.len]; decide)) ?_
                    refine RW.assign rfl rfl ?_
                    refine RW.nil (EX.seq (CW.ret (EX.seqR (EX.bkR (EX.seqR (EX.lpR (EX.bkR (EX.seqR ?_))))))))
                    refine EX.fin2' Tryd.results12 (RV.cellA ag23 rfl (by first | exact Has.head | exact Has.tail Has.head | exact Has.tail (Has.tail Has.head) | exact Has.tail (Has.tail (Has.tail Has.head)) | exact Has.tail (Has.tail (Has.tail (Has.tail Has.head))) | exact Has.tail (Has.tail (Has.tail (Has.tail (Has.tail Has.head)))) | exact Has.tail (Has.tail (Has.tail (Has.tail (Has.tail (Has.tail Has.head)))))) rfl rfl) (RV.tmp rfl) (fun wz hw => ?_)
                    -- mq: done
                    exact ⟨by rw [hps, fill_no2 (by omega) hz1]; rfl, (((hw.rem Rem.head).rem Rem.head).unbase hx13 hcv).ext⟩
                  | some y1 =>
                    -- mq: region
                    have hwz := hsz _ (getD_mem (i := 1) (L := O) (by omega))
                    refine CW.region ?_
                    refine RW.move rfl rfl ?_
                    refine RW.ixAddr (q := 1) sl50 rfl rfl rfl (by first | rfl | assumption) (by omega) (by omega) ?_
                    refine RW.load1 sc9 rfl rfl (fun w' hw' => hw'.own_at (E := EStr) Has.head (getD_at (i := 1) (L := O) (by omega)) 0 _ rfl) ?_
                    refine RW.call rfl ca29 rfl (fun w' _ => by have h := refNum_c w' (O.getD 1 []) hwz; rw [numW, hz1] at h; exact h) ?_
                    refine RW.move rfl rfl ?_
                    refine RW.extract rfl rfl rfl ?_
                    refine RW.extract rfl rfl rfl ?_
                    refine RW.fieldB fl23x2 rfl rfl ?_
                    refine RW.store1 sc3 rfl rfl (by first | exact Upd.head | exact Upd.tail Upd.head | exact Upd.tail (Upd.tail Upd.head) | exact Upd.tail (Upd.tail (Upd.tail Upd.head)) | exact Upd.tail (Upd.tail (Upd.tail (Upd.tail Upd.head))) | exact Upd.tail (Upd.tail (Upd.tail (Upd.tail (Upd.tail Upd.head)))) | exact Upd.tail (Upd.tail (Upd.tail (Upd.tail (Upd.tail (Upd.tail Upd.head)))))) rfl (by first | exact Nat.le_of_ble_eq_true rfl | simp) ?_
                    refine RW.assign rfl rfl ?_
                    refine RW.nil (EX.seq (CW.seq (CW.seq (CW.region ?_))))
                    refine RW.move rfl rfl ?_
                    refine RW.not_ rfl rfl ?_
                    refine RW.nil (EX.seq ?_)
                    -- mq: cond
                    -- mq: cond
                    refine CW.condF rfl (rfl) ?_
                    refine CW.skip (EX.seq (CW.seq (CW.seq ?_)))
                    -- mq: region
                    refine CW.region ?_
                    refine RW.move rfl rfl ?_
                    refine RW.call (v := .bool false) rfl ca24 rfl (fun w' _ => by have h := has_c w' k hk7; rw [hh] at h; exact h) ?_
                    refine RW.nil (EX.seq ?_)
                    -- mq: cond
                    have hf := fill_ok hn hh (by show O.length = 2; omega) hz0 hz1
                    rw [hf] at hps
                    refine CW.condF rfl (rfl) ?_
                    refine CW.skip (EX.seq (CW.seq (CW.region ?_)))
                    refine RW.loadBA ag23 rfl rfl (by first | exact Has.head | exact Has.tail Has.head | exact Has.tail (Has.tail Has.head) | exact Has.tail (Has.tail (Has.tail Has.head)) | exact Has.tail (Has.tail (Has.tail (Has.tail Has.head))) | exact Has.tail (Has.tail (Has.tail (Has.tail (Has.tail Has.head)))) | exact Has.tail (Has.tail (Has.tail (Has.tail (Has.tail (Has.tail Has.head)))))) rfl rfl ?_
                    refine RW.storeA ag23 rfl rfl (by first | exact Upd.head | exact Upd.tail Upd.head | exact Upd.tail (Upd.tail Upd.head) | exact Upd.tail (Upd.tail (Upd.tail Upd.head)) | exact Upd.tail (Upd.tail (Upd.tail (Upd.tail Upd.head))) | exact Upd.tail (Upd.tail (Upd.tail (Upd.tail (Upd.tail Upd.head)))) | exact Upd.tail (Upd.tail (Upd.tail (Upd.tail (Upd.tail (Upd.tail Upd.head)))))) (by first | rfl | exact Enc.len _ _) (by repeat (first | exact Ones.nil | exact Enc.ones _ _ | refine Ones.cons rfl ?_)) (by first | exact Nat.le_of_ble_eq_true rfl | (simp only [Enc.len]; decide)) ?_
                    refine RW.assign rfl rfl ?_
                    refine RW.nil (EX.seq (CW.ret (EX.bkR (EX.seqR (EX.lpR (EX.bkR (EX.seqR ?_)))))))
                    refine EX.fin2' Tryd.results12 (RV.cellA ag23 rfl (by first | exact Has.head | exact Has.tail Has.head | exact Has.tail (Has.tail Has.head) | exact Has.tail (Has.tail (Has.tail Has.head)) | exact Has.tail (Has.tail (Has.tail (Has.tail Has.head))) | exact Has.tail (Has.tail (Has.tail (Has.tail (Has.tail Has.head)))) | exact Has.tail (Has.tail (Has.tail (Has.tail (Has.tail (Has.tail Has.head)))))) rfl rfl) (RV.tmp rfl) (fun wz hw => ?_)
                    -- mq: done
                    exact ⟨by rw [hps]; rfl, (((hw.rem Rem.head).rem Rem.head).unbase hx13 hcv).ext⟩
            · skip
              refine CW.exit (EX.seqE (EX.lpE (EX.bkE (EX.seq (CW.seq ?_)))))
              -- mq: region
              refine CW.region ?_
              refine RW.move rfl rfl ?_
              refine RW.call (v := .int .i64 1) rfl ca23 rfl (fun w' _ => by have h := nums_c w' k hk7; rw [hn] at h; exact h) ?_
              refine RW.assign rfl rfl ?_
              refine RW.nil (EX.seq (CW.seq (CW.region ?_)))
              refine RW.move rfl rfl ?_
              refine RW.assign rfl rfl ?_
              refine RW.nil (EX.seq (CW.seq (CW.seq ?_)))
              -- mq: region
              refine CW.region ?_
              refine RW.move rfl rfl ?_
              refine RW.call (v := .bool false) rfl ca24 rfl (fun w' _ => by have h := has_c w' k hk7; rw [hh] at h; exact h) ?_
              refine RW.nil (EX.seq ?_)
              -- mq: cond
              refine CW.condF rfl (rfl) ?_
              refine CW.skip (EX.seq (CW.seq (CW.seq (CW.region ?_))))
              refine RW.move rfl rfl ?_
              refine RW.lenSl Tryd.underlying50 rfl rfl ?_
              refine RW.move rfl rfl ?_
              refine RW.neqI rfl rfl rfl ?_
              refine RW.nil (EX.seq ?_)
              -- mq: cond
              first | refine CW.condD rfl (fun hle => ?_) (fun hle => ?_) | refine CW.cond rfl (fun hle => ?_) (fun hle => ?_)
              · skip
                refine CW.seq (CW.region ?_)
                refine RW.buildS bu23 rfl rfl rfl ?_
                refine RW.storeA ag23 rfl rfl (by first | exact Upd.head | exact Upd.tail Upd.head | exact Upd.tail (Upd.tail Upd.head) | exact Upd.tail (Upd.tail (Upd.tail Upd.head)) | exact Upd.tail (Upd.tail (Upd.tail (Upd.tail Upd.head))) | exact Upd.tail (Upd.tail (Upd.tail (Upd.tail (Upd.tail Upd.head)))) | exact Upd.tail (Upd.tail (Upd.tail (Upd.tail (Upd.tail (Upd.tail Upd.head)))))) (by first | rfl | exact Enc.len _ _) (by repeat (first | exact Ones.nil | exact Enc.ones _ _ | refine Ones.cons rfl ?_)) (by first | exact Nat.le_of_ble_eq_true rfl | (simp only [Enc.len]; decide)) ?_
                refine RW.assign rfl rfl ?_
                refine RW.nil (EX.seq (CW.ret (EX.seqR (EX.bkR (EX.seqR (EX.lpR (EX.bkR (EX.seqR ?_))))))))
                refine EX.fin2' Tryd.results12 (RV.cellA ag23 rfl (by first | exact Has.head | exact Has.tail Has.head | exact Has.tail (Has.tail Has.head) | exact Has.tail (Has.tail (Has.tail Has.head)) | exact Has.tail (Has.tail (Has.tail (Has.tail Has.head))) | exact Has.tail (Has.tail (Has.tail (Has.tail (Has.tail Has.head)))) | exact Has.tail (Has.tail (Has.tail (Has.tail (Has.tail (Has.tail Has.head)))))) rfl rfl) (RV.tmp rfl) (fun wz hw => ?_)
                -- mq: done
                exact ⟨by rw [hps, fill_len hn hh (by show O.length ≠ 1; omega)]; rfl, (((hw.rem Rem.head).rem Rem.head).unbase hx13 hcv).ext⟩
              · skip
                have hOL : O.length = 1 := by omega
                obtain ⟨g9, rfl⟩ := hg9 (by omega)
                refine CW.skip (EX.seq (CW.seq (CW.region ?_)))
                refine RW.assign rfl rfl ?_
                refine RW.nil (EX.seq (CW.seq (CW.seq (CW.region ?_))))
                refine RW.move rfl rfl ?_
                refine RW.gtr rfl rfl rfl ?_
                refine RW.nil (EX.seq ?_)
                -- mq: cond
                refine CW.condT rfl (rfl) ?_
                cases hz0 : numF (O.getD 0 []) with
                | none =>
                  -- mq: region
                  have hwz := hsz _ (getD_mem (i := 0) (L := O) (by omega))
                  refine CW.region ?_
                  refine RW.move rfl rfl ?_
                  refine RW.ixAddr (q := 0) sl50 rfl rfl rfl (by first | rfl | assumption) (by omega) (by omega) ?_
                  refine RW.load1 sc9 rfl rfl (fun w' hw' => hw'.own_at (E := EStr) Has.head (getD_at (i := 0) (L := O) (by omega)) 0 _ rfl) ?_
                  refine RW.call rfl ca29 rfl (fun w' _ => by have h := refNum_c w' (O.getD 0 []) hwz; rw [numW, hz0] at h; exact h) ?_
                  refine RW.move rfl rfl ?_
                  refine RW.extract rfl rfl rfl ?_
                  refine RW.extract rfl rfl rfl ?_
                  refine RW.fieldB fl23x1 rfl rfl ?_
                  refine RW.store1 sc3 rfl rfl (by first | exact Upd.head | exact Upd.tail Upd.head | exact Upd.tail (Upd.tail Upd.head) | exact Upd.tail (Upd.tail (Upd.tail Upd.head)) | exact Upd.tail (Upd.tail (Upd.tail (Upd.tail Upd.head))) | exact Upd.tail (Upd.tail (Upd.tail (Upd.tail (Upd.tail Upd.head)))) | exact Upd.tail (Upd.tail (Upd.tail (Upd.tail (Upd.tail (Upd.tail Upd.head)))))) rfl (by first | exact Nat.le_of_ble_eq_true rfl | simp) ?_
                  refine RW.assign rfl rfl ?_
                  refine RW.nil (EX.seq (CW.seq (CW.seq (CW.region ?_))))
                  refine RW.move rfl rfl ?_
                  refine RW.gtr rfl rfl rfl ?_
                  refine RW.move rfl rfl ?_
                  -- mq: guard slot 69
                  refine RW.guardF rfl rfl rfl rfl ?_
                  refine RW.pickC rfl rfl rfl rfl ?_
                  refine RW.nil (EX.seq ?_)
                  -- mq: cond
                  refine CW.condF rfl (rfl) ?_
                  refine CW.skip (EX.seq (CW.seq (CW.seq (CW.region ?_))))
                  refine RW.move rfl rfl ?_
                  refine RW.not_ rfl rfl ?_
                  refine RW.nil (EX.seq ?_)
                  -- mq: cond
                  refine CW.condT rfl (rfl) ?_
                  refine CW.seq (CW.region ?_)
                  refine RW.buildS bu23 rfl rfl rfl ?_
                  refine RW.storeA ag23 rfl rfl (by first | exact Upd.head | exact Upd.tail Upd.head | exact Upd.tail (Upd.tail Upd.head) | exact Upd.tail (Upd.tail (Upd.tail Upd.head)) | exact Upd.tail (Upd.tail (Upd.tail (Upd.tail Upd.head))) | exact Upd.tail (Upd.tail (Upd.tail (Upd.tail (Upd.tail Upd.head)))) | exact Upd.tail (Upd.tail (Upd.tail (Upd.tail (Upd.tail (Upd.tail Upd.head)))))) (by first | rfl | exact Enc.len _ _) (by repeat (first | exact Ones.nil | exact Enc.ones _ _ | refine Ones.cons rfl ?_)) (by first | exact Nat.le_of_ble_eq_true rfl | (simp only [Enc.len]; decide)) ?_
                  refine RW.assign rfl rfl ?_
                  refine RW.nil (EX.seq (CW.ret (EX.seqR (EX.bkR (EX.seqR (EX.lpR (EX.bkR (EX.seqR ?_))))))))
                  refine EX.fin2' Tryd.results12 (RV.cellA ag23 rfl (by first | exact Has.head | exact Has.tail Has.head | exact Has.tail (Has.tail Has.head) | exact Has.tail (Has.tail (Has.tail Has.head)) | exact Has.tail (Has.tail (Has.tail (Has.tail Has.head))) | exact Has.tail (Has.tail (Has.tail (Has.tail (Has.tail Has.head)))) | exact Has.tail (Has.tail (Has.tail (Has.tail (Has.tail (Has.tail Has.head)))))) rfl rfl) (RV.tmp rfl) (fun wz hw => ?_)
                  -- mq: done
                  exact ⟨by rw [hps, fill_no1 (by omega) hz0]; rfl, (((hw.rem Rem.head).rem Rem.head).unbase hx13 hcv).ext⟩
                | some y0 =>
                  -- mq: region
                  have hwz := hsz _ (getD_mem (i := 0) (L := O) (by omega))
                  refine CW.region ?_
                  refine RW.move rfl rfl ?_
                  refine RW.ixAddr (q := 0) sl50 rfl rfl rfl (by first | rfl | assumption) (by omega) (by omega) ?_
                  refine RW.load1 sc9 rfl rfl (fun w' hw' => hw'.own_at (E := EStr) Has.head (getD_at (i := 0) (L := O) (by omega)) 0 _ rfl) ?_
                  refine RW.call rfl ca29 rfl (fun w' _ => by have h := refNum_c w' (O.getD 0 []) hwz; rw [numW, hz0] at h; exact h) ?_
                  refine RW.move rfl rfl ?_
                  refine RW.extract rfl rfl rfl ?_
                  refine RW.extract rfl rfl rfl ?_
                  refine RW.fieldB fl23x1 rfl rfl ?_
                  refine RW.store1 sc3 rfl rfl (by first | exact Upd.head | exact Upd.tail Upd.head | exact Upd.tail (Upd.tail Upd.head) | exact Upd.tail (Upd.tail (Upd.tail Upd.head)) | exact Upd.tail (Upd.tail (Upd.tail (Upd.tail Upd.head))) | exact Upd.tail (Upd.tail (Upd.tail (Upd.tail (Upd.tail Upd.head)))) | exact Upd.tail (Upd.tail (Upd.tail (Upd.tail (Upd.tail (Upd.tail Upd.head)))))) rfl (by first | exact Nat.le_of_ble_eq_true rfl | simp) ?_
                  refine RW.assign rfl rfl ?_
                  refine RW.nil (EX.seq (CW.seq (CW.seq (CW.region ?_))))
                  refine RW.move rfl rfl ?_
                  refine RW.gtr rfl rfl rfl ?_
                  refine RW.move rfl rfl ?_
                  -- mq: guard slot 69
                  refine RW.guardF rfl rfl rfl rfl ?_
                  refine RW.pickC rfl rfl rfl rfl ?_
                  refine RW.nil (EX.seq ?_)
                  -- mq: cond
                  refine CW.condF rfl (rfl) ?_
                  refine CW.skip (EX.seq (CW.seq (CW.seq (CW.region ?_))))
                  refine RW.move rfl rfl ?_
                  refine RW.not_ rfl rfl ?_
                  refine RW.nil (EX.seq ?_)
                  -- mq: cond
                  refine CW.condF rfl (rfl) ?_
                  refine CW.skip (EX.seq (CW.seq (CW.seq ?_)))
                  -- mq: region
                  refine CW.region ?_
                  refine RW.move rfl rfl ?_
                  refine RW.call (v := .bool false) rfl ca24 rfl (fun w' _ => by have h := has_c w' k hk7; rw [hh] at h; exact h) ?_
                  refine RW.nil (EX.seq ?_)
                  -- mq: cond
                  have hf := fill_ok hn hh (by show O.length = 1; omega) hz0 rfl
                  rw [hf] at hps
                  refine CW.condF rfl (rfl) ?_
                  refine CW.skip (EX.seq (CW.seq (CW.region ?_)))
                  refine RW.loadBA ag23 rfl rfl (by first | exact Has.head | exact Has.tail Has.head | exact Has.tail (Has.tail Has.head) | exact Has.tail (Has.tail (Has.tail Has.head)) | exact Has.tail (Has.tail (Has.tail (Has.tail Has.head))) | exact Has.tail (Has.tail (Has.tail (Has.tail (Has.tail Has.head)))) | exact Has.tail (Has.tail (Has.tail (Has.tail (Has.tail (Has.tail Has.head)))))) rfl rfl ?_
                  refine RW.storeA ag23 rfl rfl (by first | exact Upd.head | exact Upd.tail Upd.head | exact Upd.tail (Upd.tail Upd.head) | exact Upd.tail (Upd.tail (Upd.tail Upd.head)) | exact Upd.tail (Upd.tail (Upd.tail (Upd.tail Upd.head))) | exact Upd.tail (Upd.tail (Upd.tail (Upd.tail (Upd.tail Upd.head)))) | exact Upd.tail (Upd.tail (Upd.tail (Upd.tail (Upd.tail (Upd.tail Upd.head)))))) (by first | rfl | exact Enc.len _ _) (by repeat (first | exact Ones.nil | exact Enc.ones _ _ | refine Ones.cons rfl ?_)) (by first | exact Nat.le_of_ble_eq_true rfl | (simp only [Enc.len]; decide)) ?_
                  refine RW.assign rfl rfl ?_
                  refine RW.nil (EX.seq (CW.ret (EX.bkR (EX.seqR (EX.lpR (EX.bkR (EX.seqR ?_)))))))
                  refine EX.fin2' Tryd.results12 (RV.cellA ag23 rfl (by first | exact Has.head | exact Has.tail Has.head | exact Has.tail (Has.tail Has.head) | exact Has.tail (Has.tail (Has.tail Has.head)) | exact Has.tail (Has.tail (Has.tail (Has.tail Has.head))) | exact Has.tail (Has.tail (Has.tail (Has.tail (Has.tail Has.head)))) | exact Has.tail (Has.tail (Has.tail (Has.tail (Has.tail (Has.tail Has.head)))))) rfl rfl) (RV.tmp rfl) (fun wz hw => ?_)
                  -- mq: done
                  exact ⟨by rw [hps]; rfl, (((hw.rem Rem.head).rem Rem.head).unbase hx13 hcv).ext⟩
            · skip
              refine CW.exit (EX.seqE (EX.lpE (EX.bkE (EX.seq (CW.seq ?_)))))
              -- mq: region
              refine CW.region ?_
              refine RW.move rfl rfl ?_
              refine RW.call (v := .int .i64 1) rfl ca23 rfl (fun w' _ => by have h := nums_c w' k hk7; rw [hn] at h; exact h) ?_
              refine RW.assign rfl rfl ?_
              refine RW.nil (EX.seq (CW.seq (CW.region ?_)))
              refine RW.move rfl rfl ?_
              refine RW.assign rfl rfl ?_
              refine RW.nil (EX.seq (CW.seq (CW.seq ?_)))
              -- mq: region
              refine CW.region ?_
              refine RW.move rfl rfl ?_
              refine RW.call (v := .bool true) rfl ca24 rfl (fun w' _ => by have h := has_c w' k hk7; rw [hh] at h; exact h) ?_
              refine RW.nil (EX.seq ?_)
              -- mq: cond
              refine CW.condT rfl (rfl) ?_
              refine CW.region ?_
              refine RW.move rfl rfl ?_
              refine RW.add rfl rfl rfl (wrap64 (by omega) (by omega)) ?_
              refine RW.assign rfl rfl ?_
              refine RW.nil (EX.seq (CW.seq (CW.seq (CW.region ?_))))
              refine RW.move rfl rfl ?_
              refine RW.lenSl Tryd.underlying50 rfl rfl ?_
              refine RW.move rfl rfl ?_
              refine RW.neqI rfl rfl rfl ?_
              refine RW.nil (EX.seq ?_)
              -- mq: cond
              first | refine CW.condD rfl (fun hle => ?_) (fun hle => ?_) | refine CW.cond rfl (fun hle => ?_) (fun hle => ?_)
              · skip
                refine CW.seq (CW.region ?_)
                refine RW.buildS bu23 rfl rfl rfl ?_
                refine RW.storeA ag23 rfl rfl (by first | exact Upd.head | exact Upd.tail Upd.head | exact Upd.tail (Upd.tail Upd.head) | exact Upd.tail (Upd.tail (Upd.tail Upd.head)) | exact Upd.tail (Upd.tail (Upd.tail (Upd.tail Upd.head))) | exact Upd.tail (Upd.tail (Upd.tail (Upd.tail (Upd.tail Upd.head)))) | exact Upd.tail (Upd.tail (Upd.tail (Upd.tail (Upd.tail (Upd.tail Upd.head)))))) (by first | rfl | exact Enc.len _ _) (by repeat (first | exact Ones.nil | exact Enc.ones _ _ | refine Ones.cons rfl ?_)) (by first | exact Nat.le_of_ble_eq_true rfl | (simp only [Enc.len]; decide)) ?_
                refine RW.assign rfl rfl ?_
                refine RW.nil (EX.seq (CW.ret (EX.seqR (EX.bkR (EX.seqR (EX.lpR (EX.bkR (EX.seqR ?_))))))))
                refine EX.fin2' Tryd.results12 (RV.cellA ag23 rfl (by first | exact Has.head | exact Has.tail Has.head | exact Has.tail (Has.tail Has.head) | exact Has.tail (Has.tail (Has.tail Has.head)) | exact Has.tail (Has.tail (Has.tail (Has.tail Has.head))) | exact Has.tail (Has.tail (Has.tail (Has.tail (Has.tail Has.head)))) | exact Has.tail (Has.tail (Has.tail (Has.tail (Has.tail (Has.tail Has.head)))))) rfl rfl) (RV.tmp rfl) (fun wz hw => ?_)
                -- mq: done
                exact ⟨by rw [hps, fill_len hn hh (by show O.length ≠ 2; omega)]; rfl, (((hw.rem Rem.head).rem Rem.head).unbase hx13 hcv).ext⟩
              · skip
                have hOL : O.length = 2 := by omega
                obtain ⟨g9, rfl⟩ := hg9 (by omega)
                refine CW.skip (EX.seq (CW.seq (CW.region ?_)))
                refine RW.assign rfl rfl ?_
                refine RW.nil (EX.seq (CW.seq (CW.seq (CW.region ?_))))
                refine RW.move rfl rfl ?_
                refine RW.gtr rfl rfl rfl ?_
                refine RW.nil (EX.seq ?_)
                -- mq: cond
                refine CW.condT rfl (rfl) ?_
                cases hz0 : numF (O.getD 0 []) with
                | none =>
                  -- mq: region
                  have hwz := hsz _ (getD_mem (i := 0) (L := O) (by omega))
                  refine CW.region ?_
                  refine RW.move rfl rfl ?_
                  refine RW.ixAddr (q := 0) sl50 rfl rfl rfl (by first | rfl | assumption) (by omega) (by omega) ?_
                  refine RW.load1 sc9 rfl rfl (fun w' hw' => hw'.own_at (E := EStr) Has.head (getD_at (i := 0) (L := O) (by omega)) 0 _ rfl) ?_
                  refine RW.call rfl ca29 rfl (fun w' _ => by have h := refNum_c w' (O.getD 0 []) hwz; rw [numW, hz0] at h; exact h) ?_
                  refine RW.move rfl rfl ?_
                  refine RW.extract rfl rfl rfl ?_
                  refine RW.extract rfl rfl rfl ?_
                  refine RW.fieldB fl23x1 rfl rfl ?_
                  refine RW.store1 sc3 rfl rfl (by first | exact Upd.head | exact Upd.tail Upd.head | exact Upd.tail (Upd.tail Upd.head) | exact Upd.tail (Upd.tail (Upd.tail Upd.head)) | exact Upd.tail (Upd.tail (Upd.tail (Upd.tail Upd.head))) | exact Upd.tail (Upd.tail (Upd.tail (Upd.tail (Upd.tail Upd.head)))) | exact Upd.tail (Upd.tail (Upd.tail (Upd.tail (Upd.tail (Upd.tail Upd.head)))))) rfl (by first | exact Nat.le_of_ble_eq_true rfl | simp) ?_
                  refine RW.assign rfl rfl ?_
                  refine RW.nil (EX.seq (CW.seq (CW.seq (CW.region ?_))))
                  refine RW.move rfl rfl ?_
                  refine RW.gtr rfl rfl rfl ?_
                  refine RW.move rfl rfl ?_
                  -- mq: guard slot 69
                  refine RW.guardF rfl rfl rfl rfl ?_
                  refine RW.pickC rfl rfl rfl rfl ?_
                  refine RW.nil (EX.seq ?_)
                  -- mq: cond
                  refine CW.condF rfl (rfl) ?_
                  refine CW.skip (EX.seq (CW.seq (CW.seq (CW.region ?_))))
                  refine RW.move rfl rfl ?_
                  refine RW.not_ rfl rfl ?_
                  refine RW.nil (EX.seq ?_)
                  -- mq: cond
                  refine CW.condT rfl (rfl) ?_
                  refine CW.seq (CW.region ?_)
                  refine RW.buildS bu23 rfl rfl rfl ?_
                  refine RW.storeA ag23 rfl rfl (by first | exact Upd.head | exact Upd.tail Upd.head | exact Upd.tail (Upd.tail Upd.head) | exact Upd.tail (Upd.tail (Upd.tail Upd.head)) | exact Upd.tail (Upd.tail (Upd.tail (Upd.tail Upd.head))) | exact Upd.tail (Upd.tail (Upd.tail (Upd.tail (Upd.tail Upd.head)))) | exact Upd.tail (Upd.tail (Upd.tail (Upd.tail (Upd.tail (Upd.tail Upd.head)))))) (by first | rfl | exact Enc.len _ _) (by repeat (first | exact Ones.nil | exact Enc.ones _ _ | refine Ones.cons rfl ?_)) (by first | exact Nat.le_of_ble_eq_true rfl | (simp only [Enc.len]; decide)) ?_
                  refine RW.assign rfl rfl ?_
                  refine RW.nil (EX.seq (CW.ret (EX.seqR (EX.bkR (EX.seqR (EX.lpR (EX.bkR (EX.seqR ?_))))))))
                  refine EX.fin2' Tryd.results12 (RV.cellA ag23 rfl (by first | exact Has.head | exact Has.tail Has.head | exact Has.tail (Has.tail Has.head) | exact Has.tail (Has.tail (Has.tail Has.head)) | exact Has.tail (Has.tail (Has.tail (Has.tail Has.head))) | exact Has.tail (Has.tail (Has.tail (Has.tail (Has.tail Has.head)))) | exact Has.tail (Has.tail (Has.tail (Has.tail (Has.tail (Has.tail Has.head)))))) rfl rfl) (RV.tmp rfl) (fun wz hw => ?_)
                  -- mq: done
                  exact ⟨by rw [hps, fill_no1 (by omega) hz0]; rfl, (((hw.rem Rem.head).rem Rem.head).unbase hx13 hcv).ext⟩
                | some y0 =>
                  -- mq: region
                  have hwz := hsz _ (getD_mem (i := 0) (L := O) (by omega))
                  refine CW.region ?_
                  refine RW.move rfl rfl ?_
                  refine RW.ixAddr (q := 0) sl50 rfl rfl rfl (by first | rfl | assumption) (by omega) (by omega) ?_
                  refine RW.load1 sc9 rfl rfl (fun w' hw' => hw'.own_at (E := EStr) Has.head (getD_at (i := 0) (L := O) (by omega)) 0 _ rfl) ?_
                  refine RW.call rfl ca29 rfl (fun w' _ => by have h := refNum_c w' (O.getD 0 []) hwz; rw [numW, hz0] at h; exact h) ?_
                  refine RW.move rfl rfl ?_
                  refine RW.extract rfl rfl rfl ?_
                  refine RW.extract rfl rfl rfl ?_
                  refine RW.fieldB fl23x1 rfl rfl ?_
                  refine RW.store1 sc3 rfl rfl (by first | exact Upd.head | exact Upd.tail Upd.head | exact Upd.tail (Upd.tail Upd.head) | exact Upd.tail (Upd.tail (Upd.tail Upd.head)) | exact Upd.tail (Upd.tail (Upd.tail (Upd.tail Upd.head))) | exact Upd.tail (Upd.tail (Upd.tail (Upd.tail (Upd.tail Upd.head)))) | exact Upd.tail (Upd.tail (Upd.tail (Upd.tail (Upd.tail (Upd.tail Upd.head)))))) rfl (by first | exact Nat.le_of_ble_eq_true rfl | simp) ?_
                  refine RW.assign rfl rfl ?_
                  refine RW.nil (EX.seq (CW.seq (CW.seq (CW.region ?_))))
                  refine RW.move rfl rfl ?_
                  refine RW.gtr rfl rfl rfl ?_
                  refine RW.move rfl rfl ?_
                  -- mq: guard slot 69
                  refine RW.guardF rfl rfl rfl rfl ?_
                  refine RW.pickC rfl rfl rfl rfl ?_
                  refine RW.nil (EX.seq ?_)
                  -- mq: cond
                  refine CW.condF rfl (rfl) ?_
                  refine CW.skip (EX.seq (CW.seq (CW.seq (CW.region ?_))))
                  refine RW.move rfl rfl ?_
                  refine RW.not_ rfl rfl ?_
                  refine RW.nil (EX.seq ?_)
                  -- mq: cond
                  refine CW.condF rfl (rfl) ?_
                  refine CW.skip (EX.seq (CW.seq (CW.seq ?_)))
                  -- mq: region
                  refine CW.region ?_
                  refine RW.move rfl rfl ?_
                  refine RW.call (v := .bool true) rfl ca24 rfl (fun w' _ => by have h := has_c w' k hk7; rw [hh] at h; exact h) ?_
                  refine RW.nil (EX.seq ?_)
                  -- mq: cond
                  have hf := fill_ok hn hh (by show O.length = 2; omega) hz0 rfl
                  rw [hf] at hps
                  refine CW.condT rfl (rfl) ?_
                  have hwz := hsz _ (getD_mem (i := 1) (L := O) (by omega))
                  refine CW.seq (CW.region ?_)
                  refine RW.move rfl rfl ?_
                  refine RW.move rfl rfl ?_
                  refine RW.ixAddr (q := 1) sl50 rfl rfl rfl (by first | rfl | assumption) (by omega) (by omega) ?_
                  refine RW.load1 sc9 rfl rfl (fun w' hw' => hw'.own_at (E := EStr) Has.head (getD_at (i := 1) (L := O) (by omega)) 0 _ rfl) ?_
                  refine RW.call rfl ca30 rfl (fun w' _ => refData_c w' (O.getD 1 []) hwz) ?_
                  refine RW.move rfl rfl ?_
                  refine RW.extract rfl rfl rfl ?_
                  refine RW.extract rfl rfl rfl ?_
                  refine RW.assign rfl rfl ?_
                  refine RW.assign rfl rfl ?_
                  refine RW.nil (EX.seq (CW.seq (CW.seq (CW.region ?_))))
                  refine RW.move rfl rfl ?_
                  refine RW.neqI rfl rfl rfl ?_
                  refine RW.nil (EX.seq ?_)
                  -- mq: cond
                  first | refine CW.condD rfl (fun h9 => ?_) (fun h9 => ?_) | refine CW.cond rfl (fun h9 => ?_) (fun h9 => ?_)
                  · skip
                    refine CW.seq (CW.region ?_)
                    refine RW.buildS bu23 rfl rfl rfl ?_
                    refine RW.move rfl rfl ?_
                    refine RW.storeA ag23 rfl rfl (by first | exact Upd.head | exact Upd.tail Upd.head | exact Upd.tail (Upd.tail Upd.head) | exact Upd.tail (Upd.tail (Upd.tail Upd.head)) | exact Upd.tail (Upd.tail (Upd.tail (Upd.tail Upd.head))) | exact Upd.tail (Upd.tail (Upd.tail (Upd.tail (Upd.tail Upd.head)))) | exact Upd.tail (Upd.tail (Upd.tail (Upd.tail (Upd.tail (Upd.tail Upd.head)))))) (by first | rfl | exact Enc.len _ _) (by repeat (first | exact Ones.nil | exact Enc.ones _ _ | refine Ones.cons rfl ?_)) (by first | exact Nat.le_of_ble_eq_true rfl | (simp only [Enc.len]; decide)) ?_
                    refine RW.assign rfl rfl ?_
                    refine RW.nil (EX.seq (CW.ret (EX.seqR (EX.seqR (EX.bkR (EX.seqR (EX.lpR (EX.bkR (EX.seqR ?_)))))))))
                    refine EX.fin2' Tryd.results12 (RV.cellA ag23 rfl (by first | exact Has.head | exact Has.tail Has.head | exact Has.tail (Has.tail Has.head) | exact Has.tail (Has.tail (Has.tail Has.head)) | exact Has.tail (Has.tail (Has.tail (Has.tail Has.head))) | exact Has.tail (Has.tail (Has.tail (Has.tail (Has.tail Has.head)))) | exact Has.tail (Has.tail (Has.tail (Has.tail (Has.tail (Has.tail Has.head)))))) rfl rfl) (RV.tmp rfl) (fun wz hw => ?_)
                    -- mq: done
                    exact ⟨by rw [hps, if_pos rfl, if_neg (by omega)]; rfl, (((hw.rem Rem.head).rem Rem.head).unbase hx13 hcv).ext⟩
                  · skip
                    refine CW.skip (EX.seq (CW.region ?_))
                    refine RW.move rfl rfl ?_
                    refine RW.fieldB fl23x3 rfl rfl ?_
                    refine RW.store1 sc9 rfl rfl (by first | exact Upd.head | exact Upd.tail Upd.head | exact Upd.tail (Upd.tail Upd.head) | exact Upd.tail (Upd.tail (Upd.tail Upd.head)) | exact Upd.tail (Upd.tail (Upd.tail (Upd.tail Upd.head))) | exact Upd.tail (Upd.tail (Upd.tail (Upd.tail (Upd.tail Upd.head)))) | exact Upd.tail (Upd.tail (Upd.tail (Upd.tail (Upd.tail (Upd.tail Upd.head)))))) rfl (by first | exact Nat.le_of_ble_eq_true rfl | simp) ?_
                    refine RW.nil (EX.seq (CW.seq (CW.region ?_)))
                    refine RW.loadBA ag23 rfl rfl (by first | exact Has.head | exact Has.tail Has.head | exact Has.tail (Has.tail Has.head) | exact Has.tail (Has.tail (Has.tail Has.head)) | exact Has.tail (Has.tail (Has.tail (Has.tail Has.head))) | exact Has.tail (Has.tail (Has.tail (Has.tail (Has.tail Has.head)))) | exact Has.tail (Has.tail (Has.tail (Has.tail (Has.tail (Has.tail Has.head)))))) rfl rfl ?_
                    refine RW.storeA ag23 rfl rfl (by first | exact Upd.head | exact Upd.tail Upd.head | exact Upd.tail (Upd.tail Upd.head) | exact Upd.tail (Upd.tail (Upd.tail Upd.head)) | exact Upd.tail (Upd.tail (Upd.tail (Upd.tail Upd.head))) | exact Upd.tail (Upd.tail (Upd.tail (Upd.tail (Upd.tail Upd.head)))) | exact Upd.tail (Upd.tail (Upd.tail (Upd.tail (Upd.tail (Upd.tail Upd.head)))))) (by first | rfl | exact Enc.len _ _) (by repeat (first | exact Ones.nil | exact Enc.ones _ _ | refine Ones.cons rfl ?_)) (by first | exact Nat.le_of_ble_eq_true rfl | (simp only [Enc.len]; decide)) ?_
                    refine RW.assign rfl rfl ?_
                    refine RW.nil (EX.seq (CW.ret (EX.bkR (EX.seqR (EX.lpR (EX.bkR (EX.seqR ?_)))))))
                    refine EX.fin2' Tryd.results12 (RV.cellA ag23 rfl (by first | exact Has.head | exact Has.tail Has.head | exact Has.tail (Has.tail Has.head) | exact Has.tail (Has.tail (Has.tail Has.head)) | exact Has.tail (Has.tail (Has.tail (Has.tail Has.head))) | exact Has.tail (Has.tail (Has.tail (Has.tail (Has.tail Has.head)))) | exact Has.tail (Has.tail (Has.tail (Has.tail (Has.tail (Has.tail Has.head)))))) rfl rfl) (RV.tmp rfl) (fun wz hw => ?_)
                    -- mq: done
                    exact ⟨by rw [hps, if_pos rfl, if_pos (by omega)]; rfl, (((hw.rem Rem.head).rem Rem.head).unbase hx13 hcv).ext⟩
    · skip
      obtain rfl : k = 7 := by omega
      refine CW.exit (EX.seqE (EX.lpE (EX.bkE (EX.seq (CW.seq (CW.region ?_))))))
      refine RW.buildS bu23 rfl rfl rfl ?_
      refine RW.storeA ag23 rfl rfl (by first | exact Upd.head | exact Upd.tail Upd.head | exact Upd.tail (Upd.tail Upd.head) | exact Upd.tail (Upd.tail (Upd.tail Upd.head)) | exact Upd.tail (Upd.tail (Upd.tail (Upd.tail Upd.head))) | exact Upd.tail (Upd.tail (Upd.tail (Upd.tail (Upd.tail Upd.head)))) | exact Upd.tail (Upd.tail (Upd.tail (Upd.tail (Upd.tail (Upd.tail Upd.head)))))) (by first | rfl | exact Enc.len _ _) (by repeat (first | exact Ones.nil | exact Enc.ones _ _ | refine Ones.cons rfl ?_)) (by first | exact Nat.le_of_ble_eq_true rfl | (simp only [Enc.len]; decide)) ?_
      refine RW.assign rfl rfl ?_
      refine RW.nil (EX.seq (CW.ret ?_))
      refine EX.fin2' Tryd.results12 (RV.cellA ag23 rfl (by first | exact Has.head | exact Has.tail Has.head | exact Has.tail (Has.tail Has.head) | exact Has.tail (Has.tail (Has.tail Has.head)) | exact Has.tail (Has.tail (Has.tail (Has.tail Has.head))) | exact Has.tail (Has.tail (Has.tail (Has.tail (Has.tail Has.head)))) | exact Has.tail (Has.tail (Has.tail (Has.tail (Has.tail (Has.tail Has.head)))))) rfl rfl) (RV.tmp rfl) (fun wz hw => ?_)
      -- mq: done
      exact ⟨by rw [parse_none hno]; rfl, hw.ext⟩
end Go.Proofs.YtnpafpnameleaaaDoor.Mq
