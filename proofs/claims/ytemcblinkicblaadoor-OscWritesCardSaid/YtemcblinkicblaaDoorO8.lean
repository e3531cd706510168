/- osc: the reference's Read, Write -/
import Derived.Test.YtemcblinkicblaaDoorO7
namespace Go.Proofs.YtemcblinkicblaaDoor.Mq
open Go Go.RowKit Go.Proofs

theorem textS_cells (k : Int) (s : List UInt8) : (textS k s).cells = [.int .i64 k, .int .i64 0, .bool false, .string (bs (s.take 256))] := rfl
set_option maxHeartbeats 2000000 in
theorem Read17_c (w : World) (s : List UInt8) (hs : s.length ≤ 1000000) :
    Calls Tryd.prog 11 [.string (bs s)].toArray w (fun e w' => e = .returned (.agg (readO s).cells.toArray) ∧ Ext [] w w') := by
  have hm : ∀ x ∈ fullP 59 s, x.length ≤ 1000000 := fun x hx => by have := (full_mem 59 s x hx).2; omega
  have hrl := restF_len s
  have h2m := getD_le hm 2
  have hrd := rest_drop (s := s)
  have his := is_iff s
  have hro : readO s = if oneF s = [49, 51, 51] ∨ oneF s = [54, 51, 51] then shellF (decide (oneF s = [54, 51, 51])) (twoF s) (threeF s) (hasF s) else if oneF s = [55] then fileS (restF s) else if oneF s = [49, 51, 51, 55] then setS (restF s) else if (oneF s = [48] ∨ oneF s = [50]) ∧ 59 ∈ s then textS 8 (restF s) else noneS := rfl
  have hF := fun w' => refFile_c w' (restF s) (by omega)
  have hfl := file_len (restF s)
  have hun := unescF_len _ (threeF s) (Nat.le_refl _)
  have hr0 : 59 ∉ s → restF s = [] := fun h => by unfold restF; rw [if_neg h]
  refine calls (n := 145) Tryd.func11 rfl Tryd.ntmps11 rfl ?_
  refine CW.sub (H' := SH w [] []) ?_ (Sub.refl _) (fun x hx => SH.start' _ _ hx)
  refine CW.seq (CW.region ?_)
  refine RW.allocA ag24 rfl (fun g2 hg2 hf2 => ?_)
  refine RW.nil (EX.seq (CW.seq ?_))
  -- mq: region
  refine CW.region ?_
  refine RW.move rfl rfl ?_
  refine RW.call rfl ca26 rfl (fun w' _ => Field_c w' s hs 0) ?_
  refine RW.move rfl rfl ?_
  refine RW.extract rfl rfl rfl ?_
  refine RW.extract rfl rfl rfl ?_
  refine RW.assign rfl rfl ?_
  refine RW.assign rfl rfl ?_
  refine RW.nil (EX.seq (CW.seq ?_))
  -- mq: region
  refine CW.region ?_
  refine RW.move rfl rfl ?_
  refine RW.call rfl ca26 rfl (fun w' _ => Field_c w' s hs 1) ?_
  refine RW.move rfl rfl ?_
  refine RW.extract rfl rfl rfl ?_
  refine RW.extract rfl rfl rfl ?_
  refine RW.assign rfl rfl ?_
  refine RW.assign rfl rfl ?_
  refine RW.nil (EX.seq (CW.seq ?_))
  -- mq: region
  refine CW.region ?_
  refine RW.move rfl rfl ?_
  refine RW.call rfl ca26 rfl (fun w' _ => Field_c w' s hs 2) ?_
  refine RW.move rfl rfl ?_
  refine RW.extract rfl rfl rfl ?_
  refine RW.extract rfl rfl rfl ?_
  refine RW.assign rfl rfl ?_
  refine RW.assign rfl rfl ?_
  refine RW.nil (EX.seq (CW.seq (CW.region ?_)))
  refine RW.assign rfl rfl ?_
  refine RW.nil (EX.seq (CW.seq (CW.seq ?_)))
  -- mq: region
  refine CW.region ?_
  refine RW.move rfl rfl ?_
  refine RW.nil (EX.seq ?_)
  -- mq: cond
  refine CW.join ([(0, .string (bs s)), (2, .pointer (some ⟨g2, 0, none⟩)), (3, .string (bs (oneF s))), (5, .string (bs (twoF s))), (6, .bool (decide (1 < (fullP 59 s).length))), (7, .string (bs (threeF s))), (8, .bool (hasF s)), (9, .string (bs (restF s)))]) (SH w [] [blk g2 noneS.cells 24]) ?_ ?_
  · skip
    first | refine CW.condD rfl (fun hi => ?_) (fun hi => ?_) | refine CW.cond rfl (fun hi => ?_) (fun hi => ?_)
    · skip
      obtain ⟨hl1, hd1⟩ := hrd (his.1 hi)
      have hl1' : ((fullP 59 s).getD 0 []).length + 1 ≤ s.length := hl1
      refine CW.region ?_
      refine RW.move rfl rfl ?_
      refine RW.move rfl rfl ?_
      refine RW.lenS Tryd.underlying9 rfl rfl ?_
      refine RW.add (r := (((oneF s).length + 1 : Nat) : Int)) rfl rfl rfl (by rw [wrap64 (by omega) (by omega)]; rfl) ?_
      refine RW.sliceStrL ((oneF s).length + 1) Tryd.underlying9 rfl rfl rfl (by first | rfl | omega) (by first | omega | (simp; done) | (simp; omega)) ?_
      refine RW.assign rfl rfl ?_
      refine RW.nil ?_
      -- mq: joinend
      exact EX.jn (by rw [← hd1]; exact (by repeat (first | exact Sub.nil | refine Sub.cons (by rfl) ?_))) (fun _ h => h)
    · skip
      refine CW.skip ?_
      -- mq: joinend
      exact EX.jn (by rw [hr0 (fun h => hi (his.2 h))]; exact (by repeat (first | exact Sub.nil | refine Sub.cons (by rfl) ?_))) (fun _ h => h)
  · skip
    have htwo : (fullP 59 s).getD 1 [] = twoF s := rfl
    generalize hone : oneF s = one at *
    generalize twoF s = two at *
    generalize hthr : threeF s = three at *
    generalize hasF s = has at *
    generalize restF s = rest at *
    generalize hisn : decide (1 < (fullP 59 s).length) = isn at *
    have hisn2 : isn = true ↔ 59 ∈ s := by rw [← hisn, decide_eq_true_eq]; exact his
    have h3m : three.length ≤ 1000000 := by rw [← hthr]; exact h2m
    refine EX.seq (CW.seq (CW.region ?_))
    refine RW.buildS bu24 rfl rfl rfl ?_
    refine RW.allocA ag24 rfl (fun g10 hg10 hf10 => ?_)
    refine RW.storeA ag24 rfl rfl (by first | exact Upd.head | exact Upd.tail Upd.head | exact Upd.tail (Upd.tail Upd.head) | exact Upd.tail (Upd.tail (Upd.tail Upd.head)) | exact Upd.tail (Upd.tail (Upd.tail (Upd.tail Upd.head))) | exact Upd.tail (Upd.tail (Upd.tail (Upd.tail (Upd.tail Upd.head)))) | exact Upd.tail (Upd.tail (Upd.tail (Upd.tail (Upd.tail (Upd.tail Upd.head)))))) (by first | rfl | exact Enc.len _ _) (by repeat (first | exact Ones.nil | exact Enc.ones _ _ | refine Ones.cons rfl ?_)) (by first | exact Nat.le_of_ble_eq_true rfl | (simp only [Enc.len]; decide)) ?_
    refine RW.nil (EX.seq (CW.seq (CW.seq ?_)))
    -- mq: region
    refine CW.sub (H' := SH w [] [blk g10 noneS.cells 24, blk g2 noneS.cells 24]) ?_ (Sub.refl _) (fun x hx => hx.csEq (by kernel_rfl))
    refine CW.joinI (fun b : Bool => [(0, .string (bs s)), (2, .pointer (some ⟨g2, 0, none⟩)), (3, .string (bs one)), (5, .string (bs two)), (6, .bool isn), (7, .string (bs three)), (8, .bool has), (9, .string (bs rest)), (10, .pointer (some ⟨g10, 0, none⟩)), (47, .bool b)]) (fun _ => SH w [] [blk g10 noneS.cells 24, blk g2 noneS.cells 24]) (fun b => (b = true ↔ one = [49, 51, 51] ∨ one = [54, 51, 51])) ?_ ?_
    · skip
      refine CW.region ?_
      refine RW.move rfl rfl ?_
      refine RW.eqlS rfl rfl rfl ?_
      refine RW.move rfl rfl ?_
      -- mq: guard slot 44
      refine RW.casesB 44 rfl (fun g1 => ?_) (fun g1 => ?_)
      · skip
        have g1p := of_decide_eq_true g1
        refine RW.guardF rfl rfl rfl g1 ?_
        refine RW.guardF rfl rfl rfl g1 ?_
        refine RW.pickB rfl rfl g1 rfl ?_
        refine RW.nil ?_
        -- mq: joinend
        exact EX.jnI true ⟨fun _ => .inl g1p, fun _ => rfl⟩ (by repeat (first | exact Sub.nil | refine Sub.cons (by rfl) ?_)) (fun _ h => h)
      · skip
        have g1p := of_decide_eq_false g1
        refine RW.guardT rfl rfl g1 ?_
        refine RW.move rfl rfl ?_
        refine RW.guardT rfl rfl g1 ?_
        refine RW.eqlS rfl rfl rfl ?_
        refine RW.pickC rfl rfl g1 rfl ?_
        refine RW.nil ?_
        -- mq: joinend
        exact EX.jnI (decide (one = [54, 51, 51])) (by rw [decide_eq_true_eq]; exact ⟨fun h => .inr h, fun h => h.elim (fun h => absurd h g1p) (fun h => h)⟩) (by repeat (first | exact Sub.nil | refine Sub.cons (by rfl) ?_)) (fun _ h => h)
    · skip
      intro b hb
      refine EX.seq ?_
      -- mq: cond
      first | refine CW.condD rfl (fun hbb => ?_) (fun hbb => ?_) | refine CW.cond rfl (fun hbb => ?_) (fun hbb => ?_)
      · skip
        have hone2 := hb.1 hbb
        rw [if_pos hone2] at hro
        refine CW.seq (CW.region ?_)
        refine RW.assign rfl rfl ?_
        refine RW.nil (EX.seq (CW.block ?_))
        -- mq: loop
        refine CW.loop (ι := Nat) (fun k => [(0, .string (bs s)), (2, .pointer (some ⟨g2, 0, none⟩)), (3, .string (bs one)), (5, .string (bs two)), (6, .bool isn), (7, .string (bs three)), (8, .bool has), (9, .string (bs rest)), (10, .pointer (some ⟨g10, 0, none⟩)), (11, .int .i64 (k : Int))]) (fun _ => SH w [] [blk g10 noneS.cells 24, blk g2 noneS.cells 24]) (fun k => k ≤ 4 ∧ ∀ j, j < k → two ≠ [UInt8.ofNat (65 + j)]) (fun k => 4 - k) ?_ ?_
        · exact fun w' hw' => ⟨0, ⟨Nat.zero_le _, fun j hj => absurd hj (Nat.not_lt_zero _)⟩, (by repeat (first | exact Sub.nil | refine Sub.cons (by rfl) ?_)), hw'⟩
        · rintro k ⟨hk, hno⟩
          refine CW.seq (CW.seq (CW.region ?_))
          refine RW.move rfl rfl ?_
          refine RW.lss rfl rfl rfl ?_
          refine RW.nil (EX.seq ?_)
          -- mq: cond
          first | refine CW.condD rfl (fun hlt => ?_) (fun hlt => ?_) | refine CW.cond rfl (fun hlt => ?_) (fun hlt => ?_)
          · skip
            have hcut := abcd_cut k (by omega)
            have hal : abcd.length = 4 := rfl
            refine CW.skip (EX.seq (CW.seq (CW.block (CW.seq (CW.seq ?_)))))
            -- mq: region
            refine CW.region ?_
            refine RW.move rfl rfl ?_
            refine RW.move rfl rfl ?_
            refine RW.move rfl rfl ?_
            refine RW.add rfl rfl rfl (wrap64 (by omega) (by omega)) ?_
            refine RW.sliceStrLH (s := abcd) k (k + 1) Tryd.underlying9 rfl rfl rfl rfl rfl (by omega) (by omega) (by rw [hal]; omega) ?_
            refine RW.neqS rfl rfl rfl ?_
            refine RW.nil (EX.seq ?_)
            -- mq: cond
            first | refine CW.condD rfl (fun hne => ?_) (fun hne => ?_) | refine CW.cond rfl (fun hne => ?_) (fun hne => ?_)
            · skip
              refine CW.exit (EX.seqE (EX.bkE (EX.seq (CW.region ?_))))
              refine RW.move rfl rfl ?_
              refine RW.add rfl rfl rfl (wrap64 (by omega) (by omega)) ?_
              refine RW.assign rfl rfl ?_
              refine RW.nil ?_
              -- mq: loopend
              refine EX.lpN (k + 1) ⟨by omega, fun j hj => ?_⟩ (by omega) (by repeat (first | exact Sub.nil | refine Sub.cons (by rfl) ?_)) (fun w' hw' => hw')
              rcases Nat.lt_succ_iff_lt_or_eq.1 hj with h | rfl
              · exact hno j h
              · rw [← hcut]; exact hne
            · skip
              have he : two = [UInt8.ofNat (65 + k)] := by rw [← hcut]; exact Decidable.not_not.1 hne
              rw [he, shell_abc (by omega)] at hro
              refine CW.skip (EX.seq (CW.seq (CW.region ?_)))
              refine RW.move rfl rfl ?_
              refine RW.add rfl rfl rfl (wrap64 (by omega) (by omega)) ?_
              refine RW.buildS bu24 rfl rfl rfl ?_
              refine RW.allocA ag24 rfl (fun g12 hg12 hf12 => ?_)
              refine RW.storeA ag24 rfl rfl (by first | exact Upd.head | exact Upd.tail Upd.head | exact Upd.tail (Upd.tail Upd.head) | exact Upd.tail (Upd.tail (Upd.tail Upd.head)) | exact Upd.tail (Upd.tail (Upd.tail (Upd.tail Upd.head))) | exact Upd.tail (Upd.tail (Upd.tail (Upd.tail (Upd.tail Upd.head)))) | exact Upd.tail (Upd.tail (Upd.tail (Upd.tail (Upd.tail (Upd.tail Upd.head)))))) (by first | rfl | exact Enc.len _ _) (by repeat (first | exact Ones.nil | exact Enc.ones _ _ | refine Ones.cons rfl ?_)) (by first | exact Nat.le_of_ble_eq_true rfl | (simp only [Enc.len]; decide)) ?_
              refine RW.nil (EX.seq (CW.seq (CW.seq ?_)))
              -- mq: region
              refine CW.sub (H' := SH w [] [blk g12 (kindS ((k : Int) + 1)).cells 24, blk g10 noneS.cells 24, blk g2 noneS.cells 24]) ?_ (Sub.refl _) (fun x hx => hx.csEq (by kernel_rfl))
              refine CW.region ?_
              refine RW.move rfl rfl ?_
              refine RW.eqlI rfl rfl rfl ?_
              refine RW.move rfl rfl ?_
              -- mq: guard slot 63
              refine RW.casesB 63 rfl (fun g3 => ?_) (fun g3 => ?_)
              · skip
                have g3p := of_decide_eq_true g3
                obtain rfl : k = 3 := by omega
                refine RW.guardT rfl rfl g3 ?_
                refine RW.move rfl rfl ?_
                refine RW.pickB rfl rfl g3 rfl ?_
                refine RW.nil (EX.seq ?_)
                -- mq: cond
                first | refine CW.condD rfl (fun hh => ?_) (fun hh => ?_) | refine CW.cond rfl (fun hh => ?_) (fun hh => ?_)
                · skip
                  refine CW.region ?_
                  refine RW.move rfl rfl ?_
                  refine RW.call rfl ca13 rfl (fun w' _ => Code17_c w' three h3m) ?_
                  refine RW.move rfl rfl ?_
                  refine RW.extract rfl rfl rfl ?_
                  refine RW.extract rfl rfl rfl ?_
                  refine RW.fieldB fl24x1 rfl rfl ?_
                  refine RW.store1 sc3 rfl rfl (by first | exact Upd.head | exact Upd.tail Upd.head | exact Upd.tail (Upd.tail Upd.head) | exact Upd.tail (Upd.tail (Upd.tail Upd.head)) | exact Upd.tail (Upd.tail (Upd.tail (Upd.tail Upd.head))) | exact Upd.tail (Upd.tail (Upd.tail (Upd.tail (Upd.tail Upd.head)))) | exact Upd.tail (Upd.tail (Upd.tail (Upd.tail (Upd.tail (Upd.tail Upd.head)))))) rfl (by first | exact Nat.le_of_ble_eq_true rfl | simp) ?_
                  refine RW.fieldB fl24x2 rfl rfl ?_
                  refine RW.store1 sc4 rfl rfl (by first | exact Upd.head | exact Upd.tail Upd.head | exact Upd.tail (Upd.tail Upd.head) | exact Upd.tail (Upd.tail (Upd.tail Upd.head)) | exact Upd.tail (Upd.tail (Upd.tail (Upd.tail Upd.head))) | exact Upd.tail (Upd.tail (Upd.tail (Upd.tail (Upd.tail Upd.head)))) | exact Upd.tail (Upd.tail (Upd.tail (Upd.tail (Upd.tail (Upd.tail Upd.head)))))) rfl (by first | exact Nat.le_of_ble_eq_true rfl | simp) ?_
                  refine RW.nil (EX.seq (CW.seq ?_))
                  -- mq: region
                  refine CW.sub (H' := SH w [] [blk g12 (SgV.mk 4 (codeF three).1 (codeF three).2 []).cells 24, blk g10 noneS.cells 24, blk g2 noneS.cells 24]) ?_ (Sub.refl _) (fun x hx => hx.csEq (by kernel_rfl))
                  refine CW.region ?_
                  refine RW.loadBA ag24 rfl rfl (by first | exact Has.head | exact Has.tail Has.head | exact Has.tail (Has.tail Has.head) | exact Has.tail (Has.tail (Has.tail Has.head)) | exact Has.tail (Has.tail (Has.tail (Has.tail Has.head))) | exact Has.tail (Has.tail (Has.tail (Has.tail (Has.tail Has.head)))) | exact Has.tail (Has.tail (Has.tail (Has.tail (Has.tail (Has.tail Has.head)))))) rfl rfl ?_
                  refine RW.storeA ag24 rfl rfl (by first | exact Upd.head | exact Upd.tail Upd.head | exact Upd.tail (Upd.tail Upd.head) | exact Upd.tail (Upd.tail (Upd.tail Upd.head)) | exact Upd.tail (Upd.tail (Upd.tail (Upd.tail Upd.head))) | exact Upd.tail (Upd.tail (Upd.tail (Upd.tail (Upd.tail Upd.head)))) | exact Upd.tail (Upd.tail (Upd.tail (Upd.tail (Upd.tail (Upd.tail Upd.head)))))) (by first | rfl | exact Enc.len _ _) (by repeat (first | exact Ones.nil | exact Enc.ones _ _ | refine Ones.cons rfl ?_)) (by first | exact Nat.le_of_ble_eq_true rfl | (simp only [Enc.len]; decide)) ?_
                  refine RW.nil (EX.seq (CW.ret (EX.bkR (EX.seqR (EX.lpR (EX.bkR (EX.seqR ?_)))))))
                  refine EX.fin1' Tryd.results11 (RV.cellA ag24 rfl (by first | exact Has.head | exact Has.tail Has.head | exact Has.tail (Has.tail Has.head) | exact Has.tail (Has.tail (Has.tail Has.head)) | exact Has.tail (Has.tail (Has.tail (Has.tail Has.head))) | exact Has.tail (Has.tail (Has.tail (Has.tail (Has.tail Has.head)))) | exact Has.tail (Has.tail (Has.tail (Has.tail (Has.tail (Has.tail Has.head)))))) rfl rfl) (fun wz hw => ?_)
                  -- mq: done
                  exact ⟨by rw [hro, if_pos ⟨rfl, hh⟩]; rfl, hw.ext⟩
                · skip
                  refine CW.skip (EX.seq (CW.seq (CW.region ?_)))
                  refine RW.loadBA ag24 rfl rfl (by first | exact Has.head | exact Has.tail Has.head | exact Has.tail (Has.tail Has.head) | exact Has.tail (Has.tail (Has.tail Has.head)) | exact Has.tail (Has.tail (Has.tail (Has.tail Has.head))) | exact Has.tail (Has.tail (Has.tail (Has.tail (Has.tail Has.head)))) | exact Has.tail (Has.tail (Has.tail (Has.tail (Has.tail (Has.tail Has.head)))))) rfl rfl ?_
                  refine RW.storeA ag24 rfl rfl (by first | exact Upd.head | exact Upd.tail Upd.head | exact Upd.tail (Upd.tail Upd.head) | exact Upd.tail (Upd.tail (Upd.tail Upd.head)) | exact Upd.tail (Upd.tail (Upd.tail (Upd.tail Upd.head))) | exact Upd.tail (Upd.tail (Upd.tail (Upd.tail (Upd.tail Upd.head)))) | exact Upd.tail (Upd.tail (Upd.tail (Upd.tail (Upd.tail (Upd.tail Upd.head)))))) (by first | rfl | exact Enc.len _ _) (by repeat (first | exact Ones.nil | exact Enc.ones _ _ | refine Ones.cons rfl ?_)) (by first | exact Nat.le_of_ble_eq_true rfl | (simp only [Enc.len]; decide)) ?_
                  refine RW.nil (EX.seq (CW.ret (EX.bkR (EX.seqR (EX.lpR (EX.bkR (EX.seqR ?_)))))))
                  refine EX.fin1' Tryd.results11 (RV.cellA ag24 rfl (by first | exact Has.head | exact Has.tail Has.head | exact Has.tail (Has.tail Has.head) | exact Has.tail (Has.tail (Has.tail Has.head)) | exact Has.tail (Has.tail (Has.tail (Has.tail Has.head))) | exact Has.tail (Has.tail (Has.tail (Has.tail (Has.tail Has.head)))) | exact Has.tail (Has.tail (Has.tail (Has.tail (Has.tail (Has.tail Has.head)))))) rfl rfl) (fun wz hw => ?_)
                  -- mq: done
                  exact ⟨by rw [hro, if_neg (fun h => by rw [h.2] at hh; cases hh)]; rfl, hw.ext⟩
              · skip
                have g3p := of_decide_eq_false g3
                refine RW.guardF rfl rfl rfl g3 ?_
                refine RW.pickC rfl rfl g3 rfl ?_
                refine RW.nil (EX.seq ?_)
                -- mq: cond
                refine CW.condF rfl (rfl) ?_
                refine CW.skip (EX.seq (CW.seq (CW.region ?_)))
                refine RW.loadBA ag24 rfl rfl (by first | exact Has.head | exact Has.tail Has.head | exact Has.tail (Has.tail Has.head) | exact Has.tail (Has.tail (Has.tail Has.head)) | exact Has.tail (Has.tail (Has.tail (Has.tail Has.head))) | exact Has.tail (Has.tail (Has.tail (Has.tail (Has.tail Has.head)))) | exact Has.tail (Has.tail (Has.tail (Has.tail (Has.tail (Has.tail Has.head)))))) rfl rfl ?_
                refine RW.storeA ag24 rfl rfl (by first | exact Upd.head | exact Upd.tail Upd.head | exact Upd.tail (Upd.tail Upd.head) | exact Upd.tail (Upd.tail (Upd.tail Upd.head)) | exact Upd.tail (Upd.tail (Upd.tail (Upd.tail Upd.head))) | exact Upd.tail (Upd.tail (Upd.tail (Upd.tail (Upd.tail Upd.head)))) | exact Upd.tail (Upd.tail (Upd.tail (Upd.tail (Upd.tail (Upd.tail Upd.head)))))) (by first | rfl | exact Enc.len _ _) (by repeat (first | exact Ones.nil | exact Enc.ones _ _ | refine Ones.cons rfl ?_)) (by first | exact Nat.le_of_ble_eq_true rfl | (simp only [Enc.len]; decide)) ?_
                refine RW.nil (EX.seq (CW.ret (EX.bkR (EX.seqR (EX.lpR (EX.bkR (EX.seqR ?_)))))))
                refine EX.fin1' Tryd.results11 (RV.cellA ag24 rfl (by first | exact Has.head | exact Has.tail Has.head | exact Has.tail (Has.tail Has.head) | exact Has.tail (Has.tail (Has.tail Has.head)) | exact Has.tail (Has.tail (Has.tail (Has.tail Has.head))) | exact Has.tail (Has.tail (Has.tail (Has.tail (Has.tail Has.head)))) | exact Has.tail (Has.tail (Has.tail (Has.tail (Has.tail (Has.tail Has.head)))))) rfl rfl) (fun wz hw => ?_)
                -- mq: done
                exact ⟨by rw [hro, if_neg (fun h => g3p (by rw [h.1]; rfl))]; rfl, hw.ext⟩
          · skip
            obtain rfl : k = 4 := by omega
            rcases hone2 with rfl | rfl
            · skip
              rw [show decide (([49, 51, 51] : List UInt8) = [54, 51, 51]) = false by decide, shell_none hno] at hro
              refine CW.exit (EX.seqE (EX.lpE (EX.bkE (EX.seq (CW.seq (CW.seq (CW.region ?_)))))))
              refine RW.move rfl rfl ?_
              refine RW.eqlS rfl rfl rfl ?_
              refine RW.move rfl rfl ?_
              refine RW.guardF rfl rfl rfl (by decide) ?_
              refine RW.guardF rfl rfl rfl (by decide) ?_
              refine RW.pickC rfl rfl (by decide) rfl ?_
              refine RW.move rfl rfl ?_
              refine RW.guardF rfl rfl rfl rfl ?_
              refine RW.pickC rfl rfl rfl rfl ?_
              refine RW.nil (EX.seq ?_)
              -- mq: cond
              refine CW.condF rfl (rfl) ?_
              refine CW.skip (EX.seq (CW.seq (CW.seq (CW.region ?_))))
              refine RW.move rfl rfl ?_
              refine RW.eqlS rfl rfl rfl ?_
              refine RW.move rfl rfl ?_
              refine RW.guardF rfl rfl rfl (by decide) ?_
              refine RW.guardF rfl rfl rfl (by decide) ?_
              refine RW.pickC rfl rfl (by decide) rfl ?_
              refine RW.nil (EX.seq ?_)
              -- mq: cond
              refine CW.condF rfl (rfl) ?_
              refine CW.skip (EX.seq (CW.seq (CW.seq (CW.region ?_))))
              refine RW.move rfl rfl ?_
              refine RW.eqlS rfl rfl rfl ?_
              refine RW.nil (EX.seq ?_)
              -- mq: cond
              refine CW.condF rfl ((by decide)) ?_
              refine CW.skip (EX.seq (CW.seq (CW.seq (CW.region ?_))))
              refine RW.move rfl rfl ?_
              refine RW.eqlS rfl rfl rfl ?_
              refine RW.nil (EX.seq ?_)
              -- mq: cond
              refine CW.condF rfl ((by decide)) ?_
              refine CW.skip (EX.seq (CW.seq (CW.seq (CW.region ?_))))
              refine RW.move rfl rfl ?_
              refine RW.eqlS rfl rfl rfl ?_
              refine RW.move rfl rfl ?_
              refine RW.guardT rfl rfl (by decide) ?_
              refine RW.move rfl rfl ?_
              refine RW.guardT rfl rfl (by decide) ?_
              refine RW.eqlS rfl rfl rfl ?_
              refine RW.pickC rfl rfl (by decide) rfl ?_
              refine RW.move rfl rfl ?_
              refine RW.guardF rfl rfl rfl (by decide) ?_
              refine RW.pickC rfl rfl (by decide) rfl ?_
              refine RW.nil (EX.seq ?_)
              -- mq: cond
              refine CW.condF rfl (rfl) ?_
              refine CW.skip (EX.seq (CW.seq (CW.region ?_)))
              refine RW.loadBA ag24 rfl rfl (by first | exact Has.head | exact Has.tail Has.head | exact Has.tail (Has.tail Has.head) | exact Has.tail (Has.tail (Has.tail Has.head)) | exact Has.tail (Has.tail (Has.tail (Has.tail Has.head))) | exact Has.tail (Has.tail (Has.tail (Has.tail (Has.tail Has.head)))) | exact Has.tail (Has.tail (Has.tail (Has.tail (Has.tail (Has.tail Has.head)))))) rfl rfl ?_
              refine RW.storeA ag24 rfl rfl (by first | exact Upd.head | exact Upd.tail Upd.head | exact Upd.tail (Upd.tail Upd.head) | exact Upd.tail (Upd.tail (Upd.tail Upd.head)) | exact Upd.tail (Upd.tail (Upd.tail (Upd.tail Upd.head))) | exact Upd.tail (Upd.tail (Upd.tail (Upd.tail (Upd.tail Upd.head)))) | exact Upd.tail (Upd.tail (Upd.tail (Upd.tail (Upd.tail (Upd.tail Upd.head)))))) (by first | rfl | exact Enc.len _ _) (by repeat (first | exact Ones.nil | exact Enc.ones _ _ | refine Ones.cons rfl ?_)) (by first | exact Nat.le_of_ble_eq_true rfl | (simp only [Enc.len]; decide)) ?_
              refine RW.nil (EX.seq (CW.ret ?_))
              refine EX.fin1' Tryd.results11 (RV.cellA ag24 rfl (by first | exact Has.head | exact Has.tail Has.head | exact Has.tail (Has.tail Has.head) | exact Has.tail (Has.tail (Has.tail Has.head)) | exact Has.tail (Has.tail (Has.tail (Has.tail Has.head))) | exact Has.tail (Has.tail (Has.tail (Has.tail (Has.tail Has.head)))) | exact Has.tail (Has.tail (Has.tail (Has.tail (Has.tail (Has.tail Has.head)))))) rfl rfl) (fun wz hw => ?_)
              -- mq: done
              exact ⟨by rw [hro]; rfl, hw.ext⟩
            · skip
              rw [show decide (([54, 51, 51] : List UInt8) = [54, 51, 51]) = true by decide, shell_full hno] at hro
              refine CW.exit (EX.seqE (EX.lpE (EX.bkE (EX.seq (CW.seq (CW.seq (CW.region ?_)))))))
              refine RW.move rfl rfl ?_
              refine RW.eqlS rfl rfl rfl ?_
              refine RW.move rfl rfl ?_
              refine RW.guardT rfl rfl (by decide) ?_
              refine RW.move rfl rfl ?_
              refine RW.guardT rfl rfl (by decide) ?_
              refine RW.eqlS rfl rfl rfl ?_
              refine RW.pickB rfl rfl (by decide) rfl ?_
              refine RW.move rfl rfl ?_
              -- mq: guard slot 80
              refine RW.casesB 80 rfl (fun gE => ?_) (fun gE => ?_)
              · skip
                have gEp := of_decide_eq_true gE
                rw [if_pos gEp] at hro
                refine RW.guardT rfl rfl gE ?_
                refine RW.move rfl rfl ?_
                refine RW.pickB rfl rfl gE rfl ?_
                refine RW.nil (EX.seq ?_)
                -- mq: cond
                first | refine CW.condD rfl (fun hh => ?_) (fun hh => ?_) | refine CW.cond rfl (fun hh => ?_) (fun hh => ?_)
                · skip
                  refine CW.seq (CW.region ?_)
                  refine RW.move rfl rfl ?_
                  refine RW.call rfl ca17 rfl (fun w' _ => Unesc17_c w' (three) h3m) ?_
                  refine RW.call rfl ca27 rfl (fun w' _ => cut17_c w' (unescF (three)) (by omega)) ?_
                  refine RW.buildS bu24 rfl rfl rfl ?_
                  refine RW.storeA ag24 rfl rfl (by first | exact Upd.head | exact Upd.tail Upd.head | exact Upd.tail (Upd.tail Upd.head) | exact Upd.tail (Upd.tail (Upd.tail Upd.head)) | exact Upd.tail (Upd.tail (Upd.tail (Upd.tail Upd.head))) | exact Upd.tail (Upd.tail (Upd.tail (Upd.tail (Upd.tail Upd.head)))) | exact Upd.tail (Upd.tail (Upd.tail (Upd.tail (Upd.tail (Upd.tail Upd.head)))))) (by first | rfl | exact Enc.len _ _) (by repeat (first | exact Ones.nil | exact Enc.ones _ _ | refine Ones.cons rfl ?_)) (by first | exact Nat.le_of_ble_eq_true rfl | (simp only [Enc.len]; decide)) ?_
                  refine RW.nil (EX.seq (CW.ret (EX.seqR ?_)))
                  refine EX.fin1' Tryd.results11 (RV.cellA ag24 rfl (by first | exact Has.head | exact Has.tail Has.head | exact Has.tail (Has.tail Has.head) | exact Has.tail (Has.tail (Has.tail Has.head)) | exact Has.tail (Has.tail (Has.tail (Has.tail Has.head))) | exact Has.tail (Has.tail (Has.tail (Has.tail (Has.tail Has.head)))) | exact Has.tail (Has.tail (Has.tail (Has.tail (Has.tail (Has.tail Has.head)))))) rfl rfl) (fun wz hw => ?_)
                  -- mq: done
                  exact ⟨by rw [hro, if_pos hh]; rfl, hw.ext⟩
                · skip
                  refine CW.skip (EX.seq (CW.seq (CW.seq (CW.region ?_))))
                  refine RW.move rfl rfl ?_
                  refine RW.eqlS rfl rfl rfl ?_
                  refine RW.move rfl rfl ?_
                  refine RW.guardT rfl rfl (by decide) ?_
                  refine RW.move rfl rfl ?_
                  refine RW.guardT rfl rfl (by decide) ?_
                  refine RW.eqlS rfl rfl rfl ?_
                  refine RW.pickB rfl rfl (by decide) rfl ?_
                  refine RW.nil (EX.seq ?_)
                  -- mq: cond
                  refine CW.condF rfl ((decide_eq_false (by rw [gEp]; decide))) ?_
                  refine CW.skip (EX.seq (CW.seq (CW.seq (CW.region ?_))))
                  refine RW.move rfl rfl ?_
                  refine RW.eqlS rfl rfl rfl ?_
                  refine RW.nil (EX.seq ?_)
                  -- mq: cond
                  refine CW.condF rfl ((by decide)) ?_
                  refine CW.skip (EX.seq (CW.seq (CW.seq (CW.region ?_))))
                  refine RW.move rfl rfl ?_
                  refine RW.eqlS rfl rfl rfl ?_
                  refine RW.nil (EX.seq ?_)
                  -- mq: cond
                  refine CW.condF rfl ((by decide)) ?_
                  refine CW.skip (EX.seq (CW.seq (CW.seq (CW.region ?_))))
                  refine RW.move rfl rfl ?_
                  refine RW.eqlS rfl rfl rfl ?_
                  refine RW.move rfl rfl ?_
                  refine RW.guardT rfl rfl (by decide) ?_
                  refine RW.move rfl rfl ?_
                  refine RW.guardT rfl rfl (by decide) ?_
                  refine RW.eqlS rfl rfl rfl ?_
                  refine RW.pickC rfl rfl (by decide) rfl ?_
                  refine RW.move rfl rfl ?_
                  refine RW.guardF rfl rfl rfl (by decide) ?_
                  refine RW.pickC rfl rfl (by decide) rfl ?_
                  refine RW.nil (EX.seq ?_)
                  -- mq: cond
                  refine CW.condF rfl (rfl) ?_
                  refine CW.skip (EX.seq (CW.seq (CW.region ?_)))
                  refine RW.loadBA ag24 rfl rfl (by first | exact Has.head | exact Has.tail Has.head | exact Has.tail (Has.tail Has.head) | exact Has.tail (Has.tail (Has.tail Has.head)) | exact Has.tail (Has.tail (Has.tail (Has.tail Has.head))) | exact Has.tail (Has.tail (Has.tail (Has.tail (Has.tail Has.head)))) | exact Has.tail (Has.tail (Has.tail (Has.tail (Has.tail (Has.tail Has.head)))))) rfl rfl ?_
                  refine RW.storeA ag24 rfl rfl (by first | exact Upd.head | exact Upd.tail Upd.head | exact Upd.tail (Upd.tail Upd.head) | exact Upd.tail (Upd.tail (Upd.tail Upd.head)) | exact Upd.tail (Upd.tail (Upd.tail (Upd.tail Upd.head))) | exact Upd.tail (Upd.tail (Upd.tail (Upd.tail (Upd.tail Upd.head)))) | exact Upd.tail (Upd.tail (Upd.tail (Upd.tail (Upd.tail (Upd.tail Upd.head)))))) (by first | rfl | exact Enc.len _ _) (by repeat (first | exact Ones.nil | exact Enc.ones _ _ | refine Ones.cons rfl ?_)) (by first | exact Nat.le_of_ble_eq_true rfl | (simp only [Enc.len]; decide)) ?_
                  refine RW.nil (EX.seq (CW.ret ?_))
                  refine EX.fin1' Tryd.results11 (RV.cellA ag24 rfl (by first | exact Has.head | exact Has.tail Has.head | exact Has.tail (Has.tail Has.head) | exact Has.tail (Has.tail (Has.tail Has.head)) | exact Has.tail (Has.tail (Has.tail (Has.tail Has.head))) | exact Has.tail (Has.tail (Has.tail (Has.tail (Has.tail Has.head)))) | exact Has.tail (Has.tail (Has.tail (Has.tail (Has.tail (Has.tail Has.head)))))) rfl rfl) (fun wz hw => ?_)
                  -- mq: done
                  exact ⟨by rw [hro, if_neg (fun h => by rw [h] at hh; cases hh)]; rfl, hw.ext⟩
              · skip
                have gEp := of_decide_eq_false gE
                rw [if_neg gEp] at hro
                refine RW.guardF rfl rfl rfl gE ?_
                refine RW.pickC rfl rfl gE rfl ?_
                refine RW.nil (EX.seq ?_)
                -- mq: cond
                refine CW.condF rfl (rfl) ?_
                refine CW.skip (EX.seq (CW.seq (CW.seq (CW.region ?_))))
                refine RW.move rfl rfl ?_
                refine RW.eqlS rfl rfl rfl ?_
                refine RW.move rfl rfl ?_
                refine RW.guardT rfl rfl (by decide) ?_
                refine RW.move rfl rfl ?_
                refine RW.guardT rfl rfl (by decide) ?_
                refine RW.eqlS rfl rfl rfl ?_
                refine RW.pickB rfl rfl (by decide) rfl ?_
                refine RW.nil (EX.seq ?_)
                -- mq: cond
                first | refine CW.condD rfl (fun hP => ?_) (fun hP => ?_) | refine CW.cond rfl (fun hP => ?_) (fun hP => ?_)
                · skip
                  rw [if_pos hP] at hro
                  have hst := fun w' => starts_c w' three cwdL h3m (by decide)
                  by_cases hc : three.take 4 = cwdL
                  · skip
                    have hd4 : (three.drop 4).length ≤ three.length := by rw [List.length_drop]; omega
                    have hun4 := unescF_len _ (three.drop 4) (Nat.le_refl _)
                    rw [show startsV three cwdL = .tuple #[.string (bs (three.drop 4)), .bool true] from if_pos hc] at hst
                    refine CW.seq (CW.seq (CW.region ?_))
                    refine RW.move rfl rfl ?_
                    refine RW.call rfl ca28 rfl (fun w' _ => hst w') ?_
                    refine RW.move rfl rfl ?_
                    refine RW.extract rfl rfl rfl ?_
                    refine RW.extract rfl rfl rfl ?_
                    refine RW.assign rfl rfl ?_
                    refine RW.assign rfl rfl ?_
                    refine RW.nil (EX.seq (CW.seq (CW.region ?_)))
                    refine RW.move rfl rfl ?_
                    refine RW.nil (EX.seq ?_)
                    -- mq: cond
                    refine CW.condT rfl (rfl) ?_
                    refine CW.seq (CW.region ?_)
                    refine RW.move rfl rfl ?_
                    refine RW.call rfl ca17 rfl (fun w' _ => Unesc17_c w' (three.drop 4) (by omega)) ?_
                    refine RW.call rfl ca27 rfl (fun w' _ => cut17_c w' (unescF (three.drop 4)) (by omega)) ?_
                    refine RW.buildS bu24 rfl rfl rfl ?_
                    refine RW.storeA ag24 rfl rfl (by first | exact Upd.head | exact Upd.tail Upd.head | exact Upd.tail (Upd.tail Upd.head) | exact Upd.tail (Upd.tail (Upd.tail Upd.head)) | exact Upd.tail (Upd.tail (Upd.tail (Upd.tail Upd.head))) | exact Upd.tail (Upd.tail (Upd.tail (Upd.tail (Upd.tail Upd.head)))) | exact Upd.tail (Upd.tail (Upd.tail (Upd.tail (Upd.tail (Upd.tail Upd.head)))))) (by first | rfl | exact Enc.len _ _) (by repeat (first | exact Ones.nil | exact Enc.ones _ _ | refine Ones.cons rfl ?_)) (by first | exact Nat.le_of_ble_eq_true rfl | (simp only [Enc.len]; decide)) ?_
                    refine RW.nil (EX.seq (CW.ret (EX.seqR (EX.seqR ?_))))
                    refine EX.fin1' Tryd.results11 (RV.cellA ag24 rfl (by first | exact Has.head | exact Has.tail Has.head | exact Has.tail (Has.tail Has.head) | exact Has.tail (Has.tail (Has.tail Has.head)) | exact Has.tail (Has.tail (Has.tail (Has.tail Has.head))) | exact Has.tail (Has.tail (Has.tail (Has.tail (Has.tail Has.head)))) | exact Has.tail (Has.tail (Has.tail (Has.tail (Has.tail (Has.tail Has.head)))))) rfl rfl) (fun wz hw => ?_)
                    -- mq: done
                    exact ⟨by rw [hro, if_pos hc]; rfl, hw.ext⟩
                  · skip
                    rw [show startsV three cwdL = .tuple #[.string (bs []), .bool false] from if_neg hc] at hst
                    refine CW.seq (CW.seq (CW.region ?_))
                    refine RW.move rfl rfl ?_
                    refine RW.call rfl ca28 rfl (fun w' _ => hst w') ?_
                    refine RW.move rfl rfl ?_
                    refine RW.extract rfl rfl rfl ?_
                    refine RW.extract rfl rfl rfl ?_
                    refine RW.assign rfl rfl ?_
                    refine RW.assign rfl rfl ?_
                    refine RW.nil (EX.seq (CW.seq (CW.region ?_)))
                    refine RW.move rfl rfl ?_
                    refine RW.nil (EX.seq ?_)
                    -- mq: cond
                    refine CW.condF rfl (rfl) ?_
                    refine CW.skip (EX.seq (CW.seq (CW.region ?_)))
                    refine RW.loadBA ag24 rfl rfl (by first | exact Has.head | exact Has.tail Has.head | exact Has.tail (Has.tail Has.head) | exact Has.tail (Has.tail (Has.tail Has.head)) | exact Has.tail (Has.tail (Has.tail (Has.tail Has.head))) | exact Has.tail (Has.tail (Has.tail (Has.tail (Has.tail Has.head)))) | exact Has.tail (Has.tail (Has.tail (Has.tail (Has.tail (Has.tail Has.head)))))) rfl rfl ?_
                    refine RW.storeA ag24 rfl rfl (by first | exact Upd.head | exact Upd.tail Upd.head | exact Upd.tail (Upd.tail Upd.head) | exact Upd.tail (Upd.tail (Upd.tail Upd.head)) | exact Upd.tail (Upd.tail (Upd.tail (Upd.tail Upd.head))) | exact Upd.tail (Upd.tail (Upd.tail (Upd.tail (Upd.tail Upd.head)))) | exact Upd.tail (Upd.tail (Upd.tail (Upd.tail (Upd.tail (Upd.tail Upd.head)))))) (by first | rfl | exact Enc.len _ _) (by repeat (first | exact Ones.nil | exact Enc.ones _ _ | refine Ones.cons rfl ?_)) (by first | exact Nat.le_of_ble_eq_true rfl | (simp only [Enc.len]; decide)) ?_
                    refine RW.nil (EX.seq (CW.ret (EX.seqR ?_)))
                    refine EX.fin1' Tryd.results11 (RV.cellA ag24 rfl (by first | exact Has.head | exact Has.tail Has.head | exact Has.tail (Has.tail Has.head) | exact Has.tail (Has.tail (Has.tail Has.head)) | exact Has.tail (Has.tail (Has.tail (Has.tail Has.head))) | exact Has.tail (Has.tail (Has.tail (Has.tail (Has.tail Has.head)))) | exact Has.tail (Has.tail (Has.tail (Has.tail (Has.tail (Has.tail Has.head)))))) rfl rfl) (fun wz hw => ?_)
                    -- mq: done
                    exact ⟨by rw [hro, if_neg hc]; rfl, hw.ext⟩
                · skip
                  rw [if_neg hP] at hro
                  refine CW.skip (EX.seq (CW.seq (CW.seq (CW.region ?_))))
                  refine RW.move rfl rfl ?_
                  refine RW.eqlS rfl rfl rfl ?_
                  refine RW.nil (EX.seq ?_)
                  -- mq: cond
                  refine CW.condF rfl ((by decide)) ?_
                  refine CW.skip (EX.seq (CW.seq (CW.seq (CW.region ?_))))
                  refine RW.move rfl rfl ?_
                  refine RW.eqlS rfl rfl rfl ?_
                  refine RW.nil (EX.seq ?_)
                  -- mq: cond
                  refine CW.condF rfl ((by decide)) ?_
                  refine CW.skip (EX.seq (CW.seq (CW.seq (CW.region ?_))))
                  refine RW.move rfl rfl ?_
                  refine RW.eqlS rfl rfl rfl ?_
                  refine RW.move rfl rfl ?_
                  refine RW.guardT rfl rfl (by decide) ?_
                  refine RW.move rfl rfl ?_
                  refine RW.guardT rfl rfl (by decide) ?_
                  refine RW.eqlS rfl rfl rfl ?_
                  refine RW.pickC rfl rfl (by decide) rfl ?_
                  refine RW.move rfl rfl ?_
                  refine RW.guardF rfl rfl rfl (by decide) ?_
                  refine RW.pickC rfl rfl (by decide) rfl ?_
                  refine RW.nil (EX.seq ?_)
                  -- mq: cond
                  refine CW.condF rfl (rfl) ?_
                  refine CW.skip (EX.seq (CW.seq (CW.region ?_)))
                  refine RW.loadBA ag24 rfl rfl (by first | exact Has.head | exact Has.tail Has.head | exact Has.tail (Has.tail Has.head) | exact Has.tail (Has.tail (Has.tail Has.head)) | exact Has.tail (Has.tail (Has.tail (Has.tail Has.head))) | exact Has.tail (Has.tail (Has.tail (Has.tail (Has.tail Has.head)))) | exact Has.tail (Has.tail (Has.tail (Has.tail (Has.tail (Has.tail Has.head)))))) rfl rfl ?_
                  refine RW.storeA ag24 rfl rfl (by first | exact Upd.head | exact Upd.tail Upd.head | exact Upd.tail (Upd.tail Upd.head) | exact Upd.tail (Upd.tail (Upd.tail Upd.head)) | exact Upd.tail (Upd.tail (Upd.tail (Upd.tail Upd.head))) | exact Upd.tail (Upd.tail (Upd.tail (Upd.tail (Upd.tail Upd.head)))) | exact Upd.tail (Upd.tail (Upd.tail (Upd.tail (Upd.tail (Upd.tail Upd.head)))))) (by first | rfl | exact Enc.len _ _) (by repeat (first | exact Ones.nil | exact Enc.ones _ _ | refine Ones.cons rfl ?_)) (by first | exact Nat.le_of_ble_eq_true rfl | (simp only [Enc.len]; decide)) ?_
                  refine RW.nil (EX.seq (CW.ret ?_))
                  refine EX.fin1' Tryd.results11 (RV.cellA ag24 rfl (by first | exact Has.head | exact Has.tail Has.head | exact Has.tail (Has.tail Has.head) | exact Has.tail (Has.tail (Has.tail Has.head)) | exact Has.tail (Has.tail (Has.tail (Has.tail Has.head))) | exact Has.tail (Has.tail (Has.tail (Has.tail (Has.tail Has.head)))) | exact Has.tail (Has.tail (Has.tail (Has.tail (Has.tail (Has.tail Has.head)))))) rfl rfl) (fun wz hw => ?_)
                  -- mq: done
                  exact ⟨by rw [hro]; rfl, hw.ext⟩
      · skip
        have hn : ¬ (one = [49, 51, 51] ∨ one = [54, 51, 51]) := fun h => by rw [hb.2 h] at hbb; cases hbb
        rw [if_neg hn] at hro
        refine CW.skip (EX.seq (CW.seq (CW.seq (CW.region ?_))))
        refine RW.move rfl rfl ?_
        refine RW.eqlS rfl rfl rfl ?_
        refine RW.move rfl rfl ?_
        refine RW.guardF rfl rfl rfl (decide_eq_false (fun h => hn (.inr h))) ?_
        refine RW.guardF rfl rfl rfl (decide_eq_false (fun h => hn (.inr h))) ?_
        refine RW.pickC rfl rfl (decide_eq_false (fun h => hn (.inr h))) rfl ?_
        refine RW.move rfl rfl ?_
        refine RW.guardF rfl rfl rfl rfl ?_
        refine RW.pickC rfl rfl rfl rfl ?_
        refine RW.nil (EX.seq ?_)
        -- mq: cond
        refine CW.condF rfl (rfl) ?_
        refine CW.skip (EX.seq (CW.seq (CW.seq (CW.region ?_))))
        refine RW.move rfl rfl ?_
        refine RW.eqlS rfl rfl rfl ?_
        refine RW.move rfl rfl ?_
        refine RW.guardF rfl rfl rfl (decide_eq_false (fun h => hn (.inr h))) ?_
        refine RW.guardF rfl rfl rfl (decide_eq_false (fun h => hn (.inr h))) ?_
        refine RW.pickC rfl rfl (decide_eq_false (fun h => hn (.inr h))) rfl ?_
        refine RW.nil (EX.seq ?_)
        -- mq: cond
        refine CW.condF rfl (rfl) ?_
        refine CW.skip (EX.seq (CW.seq (CW.seq (CW.region ?_))))
        refine RW.move rfl rfl ?_
        refine RW.eqlS rfl rfl rfl ?_
        refine RW.nil (EX.seq ?_)
        -- mq: cond
        first | refine CW.condD rfl (fun h7 => ?_) (fun h7 => ?_) | refine CW.cond rfl (fun h7 => ?_) (fun h7 => ?_)
        · skip
          rw [if_pos h7] at hro
          cases hfi : fileL rest with
          | some p =>
            have hpl := hfl p hfi
            rw [show fileR rest = .tuple #[.string (bs p.1), .string (bs p.2), .bool true] by rw [fileR, hfi]] at hF
            refine CW.seq (CW.region ?_)
            refine RW.move rfl rfl ?_
            refine RW.call rfl ca29 rfl (fun w' _ => hF w') ?_
            refine RW.move rfl rfl ?_
            refine RW.extract rfl rfl rfl ?_
            refine RW.extract rfl rfl rfl ?_
            refine RW.extract rfl rfl rfl ?_
            refine RW.assign rfl rfl ?_
            refine RW.assign rfl rfl ?_
            refine RW.assign rfl rfl ?_
            refine RW.nil (EX.seq (CW.seq (CW.seq (CW.region ?_))))
            refine RW.move rfl rfl ?_
            refine RW.not_ rfl rfl ?_
            refine RW.nil (EX.seq ?_)
            -- mq: cond
            refine CW.condF rfl (rfl) ?_
            refine CW.skip (EX.seq (CW.seq (CW.region ?_)))
            refine RW.move rfl rfl ?_
            refine RW.call rfl ca27 rfl (fun w' _ => cut17_c w' (p.2) (by omega)) ?_
            refine RW.buildS bu24 rfl rfl rfl ?_
            refine RW.storeA ag24 rfl rfl (by first | exact Upd.head | exact Upd.tail Upd.head | exact Upd.tail (Upd.tail Upd.head) | exact Upd.tail (Upd.tail (Upd.tail Upd.head)) | exact Upd.tail (Upd.tail (Upd.tail (Upd.tail Upd.head))) | exact Upd.tail (Upd.tail (Upd.tail (Upd.tail (Upd.tail Upd.head)))) | exact Upd.tail (Upd.tail (Upd.tail (Upd.tail (Upd.tail (Upd.tail Upd.head)))))) (by first | rfl | exact Enc.len _ _) (by repeat (first | exact Ones.nil | exact Enc.ones _ _ | refine Ones.cons rfl ?_)) (by first | exact Nat.le_of_ble_eq_true rfl | (simp only [Enc.len]; decide)) ?_
            refine RW.nil (EX.seq (CW.ret (EX.seqR ?_)))
            refine EX.fin1' Tryd.results11 (RV.cellA ag24 rfl (by first | exact Has.head | exact Has.tail Has.head | exact Has.tail (Has.tail Has.head) | exact Has.tail (Has.tail (Has.tail Has.head)) | exact Has.tail (Has.tail (Has.tail (Has.tail Has.head))) | exact Has.tail (Has.tail (Has.tail (Has.tail (Has.tail Has.head)))) | exact Has.tail (Has.tail (Has.tail (Has.tail (Has.tail (Has.tail Has.head)))))) rfl rfl) (fun wz hw => ?_)
            -- mq: done
            exact ⟨by rw [hro, fileS, hfi]; rfl, hw.ext⟩
          | none =>
            rw [show fileR rest = .tuple #[.string (bs []), .string (bs []), .bool false] by rw [fileR, hfi]] at hF
            refine CW.seq (CW.region ?_)
            refine RW.move rfl rfl ?_
            refine RW.call rfl ca29 rfl (fun w' _ => hF w') ?_
            refine RW.move rfl rfl ?_
            refine RW.extract rfl rfl rfl ?_
            refine RW.extract rfl rfl rfl ?_
            refine RW.extract rfl rfl rfl ?_
            refine RW.assign rfl rfl ?_
            refine RW.assign rfl rfl ?_
            refine RW.assign rfl rfl ?_
            refine RW.nil (EX.seq (CW.seq (CW.seq (CW.region ?_))))
            refine RW.move rfl rfl ?_
            refine RW.not_ rfl rfl ?_
            refine RW.nil (EX.seq ?_)
            -- mq: cond
            refine CW.condT rfl (rfl) ?_
            refine CW.seq (CW.region ?_)
            refine RW.loadBA ag24 rfl rfl (by first | exact Has.head | exact Has.tail Has.head | exact Has.tail (Has.tail Has.head) | exact Has.tail (Has.tail (Has.tail Has.head)) | exact Has.tail (Has.tail (Has.tail (Has.tail Has.head))) | exact Has.tail (Has.tail (Has.tail (Has.tail (Has.tail Has.head)))) | exact Has.tail (Has.tail (Has.tail (Has.tail (Has.tail (Has.tail Has.head)))))) rfl rfl ?_
            refine RW.storeA ag24 rfl rfl (by first | exact Upd.head | exact Upd.tail Upd.head | exact Upd.tail (Upd.tail Upd.head) | exact Upd.tail (Upd.tail (Upd.tail Upd.head)) | exact Upd.tail (Upd.tail (Upd.tail (Upd.tail Upd.head))) | exact Upd.tail (Upd.tail (Upd.tail (Upd.tail (Upd.tail Upd.head)))) | exact Upd.tail (Upd.tail (Upd.tail (Upd.tail (Upd.tail (Upd.tail Upd.head)))))) (by first | rfl | exact Enc.len _ _) (by repeat (first | exact Ones.nil | exact Enc.ones _ _ | refine Ones.cons rfl ?_)) (by first | exact Nat.le_of_ble_eq_true rfl | (simp only [Enc.len]; decide)) ?_
            refine RW.nil (EX.seq (CW.ret (EX.seqR (EX.seqR ?_))))
            refine EX.fin1' Tryd.results11 (RV.cellA ag24 rfl (by first | exact Has.head | exact Has.tail Has.head | exact Has.tail (Has.tail Has.head) | exact Has.tail (Has.tail (Has.tail Has.head)) | exact Has.tail (Has.tail (Has.tail (Has.tail Has.head))) | exact Has.tail (Has.tail (Has.tail (Has.tail (Has.tail Has.head)))) | exact Has.tail (Has.tail (Has.tail (Has.tail (Has.tail (Has.tail Has.head)))))) rfl rfl) (fun wz hw => ?_)
            -- mq: done
            exact ⟨by rw [hro, fileS, hfi]; rfl, hw.ext⟩
        · skip
          rw [if_neg h7] at hro
          refine CW.skip (EX.seq (CW.seq (CW.seq (CW.region ?_))))
          refine RW.move rfl rfl ?_
          refine RW.eqlS rfl rfl rfl ?_
          refine RW.nil (EX.seq ?_)
          -- mq: cond
          first | refine CW.condD rfl (fun h4 => ?_) (fun h4 => ?_) | refine CW.cond rfl (fun h4 => ?_) (fun h4 => ?_)
          · skip
            rw [if_pos h4] at hro
            refine CW.seq (CW.seq (CW.region ?_))
            refine RW.move rfl rfl ?_
            refine RW.eqlS rfl rfl rfl ?_
            refine RW.nil (EX.seq ?_)
            -- mq: cond
            first | refine CW.condD rfl (fun h5 => ?_) (fun h5 => ?_) | refine CW.cond rfl (fun h5 => ?_) (fun h5 => ?_)
            · skip
              refine CW.seq (CW.region ?_)
              refine RW.buildS bu24 rfl rfl rfl ?_
              refine RW.storeA ag24 rfl rfl (by first | exact Upd.head | exact Upd.tail Upd.head | exact Upd.tail (Upd.tail Upd.head) | exact Upd.tail (Upd.tail (Upd.tail Upd.head)) | exact Upd.tail (Upd.tail (Upd.tail (Upd.tail Upd.head))) | exact Upd.tail (Upd.tail (Upd.tail (Upd.tail (Upd.tail Upd.head)))) | exact Upd.tail (Upd.tail (Upd.tail (Upd.tail (Upd.tail (Upd.tail Upd.head)))))) (by first | rfl | exact Enc.len _ _) (by repeat (first | exact Ones.nil | exact Enc.ones _ _ | refine Ones.cons rfl ?_)) (by first | exact Nat.le_of_ble_eq_true rfl | (simp only [Enc.len]; decide)) ?_
              refine RW.nil (EX.seq (CW.ret (EX.seqR (EX.seqR ?_))))
              refine EX.fin1' Tryd.results11 (RV.cellA ag24 rfl (by first | exact Has.head | exact Has.tail Has.head | exact Has.tail (Has.tail Has.head) | exact Has.tail (Has.tail (Has.tail Has.head)) | exact Has.tail (Has.tail (Has.tail (Has.tail Has.head))) | exact Has.tail (Has.tail (Has.tail (Has.tail (Has.tail Has.head)))) | exact Has.tail (Has.tail (Has.tail (Has.tail (Has.tail (Has.tail Has.head)))))) rfl rfl) (fun wz hw => ?_)
              -- mq: done
              exact ⟨by rw [hro, setS, if_pos (show rest = setL from h5)]; rfl, hw.ext⟩
            · skip
              have hst := fun w' => starts_c w' rest curL (by omega) (by decide)
              by_cases hc : rest.take 11 = curL
              · skip
                rw [show startsV rest curL = .tuple #[.string (bs (rest.drop 11)), .bool true] from if_pos hc] at hst
                refine CW.skip (EX.seq (CW.seq (CW.region ?_)))
                refine RW.move rfl rfl ?_
                refine RW.call rfl ca28 rfl (fun w' _ => hst w') ?_
                refine RW.move rfl rfl ?_
                refine RW.extract rfl rfl rfl ?_
                refine RW.extract rfl rfl rfl ?_
                refine RW.assign rfl rfl ?_
                refine RW.assign rfl rfl ?_
                refine RW.nil (EX.seq (CW.seq (CW.region ?_)))
                refine RW.move rfl rfl ?_
                refine RW.nil (EX.seq ?_)
                -- mq: cond
                refine CW.condT rfl (rfl) ?_
                refine CW.seq (CW.region ?_)
                refine RW.move rfl rfl ?_
                refine RW.call rfl ca27 rfl (fun w' _ => cut17_c w' (rest.drop 11) (by rw [List.length_drop]; omega)) ?_
                refine RW.buildS bu24 rfl rfl rfl ?_
                refine RW.storeA ag24 rfl rfl (by first | exact Upd.head | exact Upd.tail Upd.head | exact Upd.tail (Upd.tail Upd.head) | exact Upd.tail (Upd.tail (Upd.tail Upd.head)) | exact Upd.tail (Upd.tail (Upd.tail (Upd.tail Upd.head))) | exact Upd.tail (Upd.tail (Upd.tail (Upd.tail (Upd.tail Upd.head)))) | exact Upd.tail (Upd.tail (Upd.tail (Upd.tail (Upd.tail (Upd.tail Upd.head)))))) (by first | rfl | exact Enc.len _ _) (by repeat (first | exact Ones.nil | exact Enc.ones _ _ | refine Ones.cons rfl ?_)) (by first | exact Nat.le_of_ble_eq_true rfl | (simp only [Enc.len]; decide)) ?_
                refine RW.nil (EX.seq (CW.ret (EX.seqR ?_)))
                refine EX.fin1' Tryd.results11 (RV.cellA ag24 rfl (by first | exact Has.head | exact Has.tail Has.head | exact Has.tail (Has.tail Has.head) | exact Has.tail (Has.tail (Has.tail Has.head)) | exact Has.tail (Has.tail (Has.tail (Has.tail Has.head))) | exact Has.tail (Has.tail (Has.tail (Has.tail (Has.tail Has.head)))) | exact Has.tail (Has.tail (Has.tail (Has.tail (Has.tail (Has.tail Has.head)))))) rfl rfl) (fun wz hw => ?_)
                -- mq: done
                exact ⟨by rw [hro, setS, if_neg (show ¬ rest = setL from h5), if_pos hc]; rfl, hw.ext⟩
              · skip
                rw [show startsV rest curL = .tuple #[.string (bs []), .bool false] from if_neg hc] at hst
                refine CW.skip (EX.seq (CW.seq (CW.region ?_)))
                refine RW.move rfl rfl ?_
                refine RW.call rfl ca28 rfl (fun w' _ => hst w') ?_
                refine RW.move rfl rfl ?_
                refine RW.extract rfl rfl rfl ?_
                refine RW.extract rfl rfl rfl ?_
                refine RW.assign rfl rfl ?_
                refine RW.assign rfl rfl ?_
                refine RW.nil (EX.seq (CW.seq (CW.region ?_)))
                refine RW.move rfl rfl ?_
                refine RW.nil (EX.seq ?_)
                -- mq: cond
                refine CW.condF rfl (rfl) ?_
                refine CW.skip (EX.seq (CW.seq (CW.seq (CW.region ?_))))
                refine RW.move rfl rfl ?_
                refine RW.eqlS rfl rfl rfl ?_
                refine RW.move rfl rfl ?_
                refine RW.guardT rfl rfl (by rw [h4]; decide) ?_
                refine RW.move rfl rfl ?_
                refine RW.guardT rfl rfl (by rw [h4]; decide) ?_
                refine RW.eqlS rfl rfl rfl ?_
                refine RW.pickC rfl rfl (by rw [h4]; decide) rfl ?_
                refine RW.move rfl rfl ?_
                refine RW.guardF rfl rfl rfl (by rw [h4]; decide) ?_
                refine RW.pickC rfl rfl (by rw [h4]; decide) rfl ?_
                refine RW.nil (EX.seq ?_)
                -- mq: cond
                refine CW.condF rfl (rfl) ?_
                refine CW.skip (EX.seq (CW.seq (CW.region ?_)))
                refine RW.loadBA ag24 rfl rfl (by first | exact Has.head | exact Has.tail Has.head | exact Has.tail (Has.tail Has.head) | exact Has.tail (Has.tail (Has.tail Has.head)) | exact Has.tail (Has.tail (Has.tail (Has.tail Has.head))) | exact Has.tail (Has.tail (Has.tail (Has.tail (Has.tail Has.head)))) | exact Has.tail (Has.tail (Has.tail (Has.tail (Has.tail (Has.tail Has.head)))))) rfl rfl ?_
                refine RW.storeA ag24 rfl rfl (by first | exact Upd.head | exact Upd.tail Upd.head | exact Upd.tail (Upd.tail Upd.head) | exact Upd.tail (Upd.tail (Upd.tail Upd.head)) | exact Upd.tail (Upd.tail (Upd.tail (Upd.tail Upd.head))) | exact Upd.tail (Upd.tail (Upd.tail (Upd.tail (Upd.tail Upd.head)))) | exact Upd.tail (Upd.tail (Upd.tail (Upd.tail (Upd.tail (Upd.tail Upd.head)))))) (by first | rfl | exact Enc.len _ _) (by repeat (first | exact Ones.nil | exact Enc.ones _ _ | refine Ones.cons rfl ?_)) (by first | exact Nat.le_of_ble_eq_true rfl | (simp only [Enc.len]; decide)) ?_
                refine RW.nil (EX.seq (CW.ret ?_))
                refine EX.fin1' Tryd.results11 (RV.cellA ag24 rfl (by first | exact Has.head | exact Has.tail Has.head | exact Has.tail (Has.tail Has.head) | exact Has.tail (Has.tail (Has.tail Has.head)) | exact Has.tail (Has.tail (Has.tail (Has.tail Has.head))) | exact Has.tail (Has.tail (Has.tail (Has.tail (Has.tail Has.head)))) | exact Has.tail (Has.tail (Has.tail (Has.tail (Has.tail (Has.tail Has.head)))))) rfl rfl) (fun wz hw => ?_)
                -- mq: done
                exact ⟨by rw [hro, setS, if_neg (show ¬ rest = setL from h5), if_neg hc]; rfl, hw.ext⟩
          · skip
            rw [if_neg h4] at hro
            refine CW.skip (EX.seq (CW.seq (CW.seq (CW.region ?_))))
            refine RW.move rfl rfl ?_
            refine RW.eqlS rfl rfl rfl ?_
            refine RW.move rfl rfl ?_
            -- mq: guard slot 134
            refine RW.casesB 134 rfl (fun g0 => ?_) (fun g0 => ?_)
            · skip
              have g0p := of_decide_eq_true g0
              refine RW.guardF rfl rfl rfl g0 ?_
              refine RW.guardF rfl rfl rfl g0 ?_
              refine RW.pickB rfl rfl g0 rfl ?_
              refine RW.move rfl rfl ?_
              refine RW.guardT rfl rfl rfl ?_
              refine RW.move rfl rfl ?_
              refine RW.pickB rfl rfl rfl rfl ?_
              refine RW.nil (EX.seq ?_)
              -- mq: cond
              first | refine CW.condD rfl (fun hi => ?_) (fun hi => ?_) | refine CW.cond rfl (fun hi => ?_) (fun hi => ?_)
              · skip
                refine CW.seq (CW.region ?_)
                refine RW.move rfl rfl ?_
                refine RW.call rfl ca27 rfl (fun w' _ => cut17_c w' (rest) (by omega)) ?_
                refine RW.buildS bu24 rfl rfl rfl ?_
                refine RW.storeA ag24 rfl rfl (by first | exact Upd.head | exact Upd.tail Upd.head | exact Upd.tail (Upd.tail Upd.head) | exact Upd.tail (Upd.tail (Upd.tail Upd.head)) | exact Upd.tail (Upd.tail (Upd.tail (Upd.tail Upd.head))) | exact Upd.tail (Upd.tail (Upd.tail (Upd.tail (Upd.tail Upd.head)))) | exact Upd.tail (Upd.tail (Upd.tail (Upd.tail (Upd.tail (Upd.tail Upd.head)))))) (by first | rfl | exact Enc.len _ _) (by repeat (first | exact Ones.nil | exact Enc.ones _ _ | refine Ones.cons rfl ?_)) (by first | exact Nat.le_of_ble_eq_true rfl | (simp only [Enc.len]; decide)) ?_
                refine RW.nil (EX.seq (CW.ret (EX.seqR ?_)))
                refine EX.fin1' Tryd.results11 (RV.cellA ag24 rfl (by first | exact Has.head | exact Has.tail Has.head | exact Has.tail (Has.tail Has.head) | exact Has.tail (Has.tail (Has.tail Has.head)) | exact Has.tail (Has.tail (Has.tail (Has.tail Has.head))) | exact Has.tail (Has.tail (Has.tail (Has.tail (Has.tail Has.head)))) | exact Has.tail (Has.tail (Has.tail (Has.tail (Has.tail (Has.tail Has.head)))))) rfl rfl) (fun wz hw => ?_)
                -- mq: done
                exact ⟨by rw [hro, if_pos ⟨.inl g0p, hisn2.1 hi⟩]; rfl, hw.ext⟩
              · skip
                refine CW.skip (EX.seq (CW.seq (CW.region ?_)))
                refine RW.loadBA ag24 rfl rfl (by first | exact Has.head | exact Has.tail Has.head | exact Has.tail (Has.tail Has.head) | exact Has.tail (Has.tail (Has.tail Has.head)) | exact Has.tail (Has.tail (Has.tail (Has.tail Has.head))) | exact Has.tail (Has.tail (Has.tail (Has.tail (Has.tail Has.head)))) | exact Has.tail (Has.tail (Has.tail (Has.tail (Has.tail (Has.tail Has.head)))))) rfl rfl ?_
                refine RW.storeA ag24 rfl rfl (by first | exact Upd.head | exact Upd.tail Upd.head | exact Upd.tail (Upd.tail Upd.head) | exact Upd.tail (Upd.tail (Upd.tail Upd.head)) | exact Upd.tail (Upd.tail (Upd.tail (Upd.tail Upd.head))) | exact Upd.tail (Upd.tail (Upd.tail (Upd.tail (Upd.tail Upd.head)))) | exact Upd.tail (Upd.tail (Upd.tail (Upd.tail (Upd.tail (Upd.tail Upd.head)))))) (by first | rfl | exact Enc.len _ _) (by repeat (first | exact Ones.nil | exact Enc.ones _ _ | refine Ones.cons rfl ?_)) (by first | exact Nat.le_of_ble_eq_true rfl | (simp only [Enc.len]; decide)) ?_
                refine RW.nil (EX.seq (CW.ret ?_))
                refine EX.fin1' Tryd.results11 (RV.cellA ag24 rfl (by first | exact Has.head | exact Has.tail Has.head | exact Has.tail (Has.tail Has.head) | exact Has.tail (Has.tail (Has.tail Has.head)) | exact Has.tail (Has.tail (Has.tail (Has.tail Has.head))) | exact Has.tail (Has.tail (Has.tail (Has.tail (Has.tail Has.head)))) | exact Has.tail (Has.tail (Has.tail (Has.tail (Has.tail (Has.tail Has.head)))))) rfl rfl) (fun wz hw => ?_)
                -- mq: done
                exact ⟨by rw [hro, if_neg (fun h => by rw [hisn2.2 h.2] at hi; cases hi)]; rfl, hw.ext⟩
            · skip
              have g0p := of_decide_eq_false g0
              refine RW.guardT rfl rfl g0 ?_
              refine RW.move rfl rfl ?_
              refine RW.guardT rfl rfl g0 ?_
              refine RW.eqlS rfl rfl rfl ?_
              refine RW.pickC rfl rfl g0 rfl ?_
              refine RW.move rfl rfl ?_
              -- mq: guard slot 138
              refine RW.casesB 138 rfl (fun g1 => ?_) (fun g1 => ?_)
              · skip
                have g1p := of_decide_eq_true g1
                refine RW.guardT rfl rfl g1 ?_
                refine RW.move rfl rfl ?_
                refine RW.pickB rfl rfl g1 rfl ?_
                refine RW.nil (EX.seq ?_)
                -- mq: cond
                first | refine CW.condD rfl (fun hi => ?_) (fun hi => ?_) | refine CW.cond rfl (fun hi => ?_) (fun hi => ?_)
                · skip
                  refine CW.seq (CW.region ?_)
                  refine RW.move rfl rfl ?_
                  refine RW.call rfl ca27 rfl (fun w' _ => cut17_c w' (rest) (by omega)) ?_
                  refine RW.buildS bu24 rfl rfl rfl ?_
                  refine RW.storeA ag24 rfl rfl (by first | exact Upd.head | exact Upd.tail Upd.head | exact Upd.tail (Upd.tail Upd.head) | exact Upd.tail (Upd.tail (Upd.tail Upd.head)) | exact Upd.tail (Upd.tail (Upd.tail (Upd.tail Upd.head))) | exact Upd.tail (Upd.tail (Upd.tail (Upd.tail (Upd.tail Upd.head)))) | exact Upd.tail (Upd.tail (Upd.tail (Upd.tail (Upd.tail (Upd.tail Upd.head)))))) (by first | rfl | exact Enc.len _ _) (by repeat (first | exact Ones.nil | exact Enc.ones _ _ | refine Ones.cons rfl ?_)) (by first | exact Nat.le_of_ble_eq_true rfl | (simp only [Enc.len]; decide)) ?_
                  refine RW.nil (EX.seq (CW.ret (EX.seqR ?_)))
                  refine EX.fin1' Tryd.results11 (RV.cellA ag24 rfl (by first | exact Has.head | exact Has.tail Has.head | exact Has.tail (Has.tail Has.head) | exact Has.tail (Has.tail (Has.tail Has.head)) | exact Has.tail (Has.tail (Has.tail (Has.tail Has.head))) | exact Has.tail (Has.tail (Has.tail (Has.tail (Has.tail Has.head)))) | exact Has.tail (Has.tail (Has.tail (Has.tail (Has.tail (Has.tail Has.head)))))) rfl rfl) (fun wz hw => ?_)
                  -- mq: done
                  exact ⟨by rw [hro, if_pos ⟨.inr g1p, hisn2.1 hi⟩]; rfl, hw.ext⟩
                · skip
                  refine CW.skip (EX.seq (CW.seq (CW.region ?_)))
                  refine RW.loadBA ag24 rfl rfl (by first | exact Has.head | exact Has.tail Has.head | exact Has.tail (Has.tail Has.head) | exact Has.tail (Has.tail (Has.tail Has.head)) | exact Has.tail (Has.tail (Has.tail (Has.tail Has.head))) | exact Has.tail (Has.tail (Has.tail (Has.tail (Has.tail Has.head)))) | exact Has.tail (Has.tail (Has.tail (Has.tail (Has.tail (Has.tail Has.head)))))) rfl rfl ?_
                  refine RW.storeA ag24 rfl rfl (by first | exact Upd.head | exact Upd.tail Upd.head | exact Upd.tail (Upd.tail Upd.head) | exact Upd.tail (Upd.tail (Upd.tail Upd.head)) | exact Upd.tail (Upd.tail (Upd.tail (Upd.tail Upd.head))) | exact Upd.tail (Upd.tail (Upd.tail (Upd.tail (Upd.tail Upd.head)))) | exact Upd.tail (Upd.tail (Upd.tail (Upd.tail (Upd.tail (Upd.tail Upd.head)))))) (by first | rfl | exact Enc.len _ _) (by repeat (first | exact Ones.nil | exact Enc.ones _ _ | refine Ones.cons rfl ?_)) (by first | exact Nat.le_of_ble_eq_true rfl | (simp only [Enc.len]; decide)) ?_
                  refine RW.nil (EX.seq (CW.ret ?_))
                  refine EX.fin1' Tryd.results11 (RV.cellA ag24 rfl (by first | exact Has.head | exact Has.tail Has.head | exact Has.tail (Has.tail Has.head) | exact Has.tail (Has.tail (Has.tail Has.head)) | exact Has.tail (Has.tail (Has.tail (Has.tail Has.head))) | exact Has.tail (Has.tail (Has.tail (Has.tail (Has.tail Has.head)))) | exact Has.tail (Has.tail (Has.tail (Has.tail (Has.tail (Has.tail Has.head)))))) rfl rfl) (fun wz hw => ?_)
                  -- mq: done
                  exact ⟨by rw [hro, if_neg (fun h => by rw [hisn2.2 h.2] at hi; cases hi)]; rfl, hw.ext⟩
              · skip
                have g1p := of_decide_eq_false g1
                refine RW.guardF rfl rfl rfl g1 ?_
                refine RW.pickC rfl rfl g1 rfl ?_
                refine RW.nil (EX.seq ?_)
                -- mq: cond
                refine CW.condF rfl (rfl) ?_
                refine CW.skip (EX.seq (CW.seq (CW.region ?_)))
                refine RW.loadBA ag24 rfl rfl (by first | exact Has.head | exact Has.tail Has.head | exact Has.tail (Has.tail Has.head) | exact Has.tail (Has.tail (Has.tail Has.head)) | exact Has.tail (Has.tail (Has.tail (Has.tail Has.head))) | exact Has.tail (Has.tail (Has.tail (Has.tail (Has.tail Has.head)))) | exact Has.tail (Has.tail (Has.tail (Has.tail (Has.tail (Has.tail Has.head)))))) rfl rfl ?_
                refine RW.storeA ag24 rfl rfl (by first | exact Upd.head | exact Upd.tail Upd.head | exact Upd.tail (Upd.tail Upd.head) | exact Upd.tail (Upd.tail (Upd.tail Upd.head)) | exact Upd.tail (Upd.tail (Upd.tail (Upd.tail Upd.head))) | exact Upd.tail (Upd.tail (Upd.tail (Upd.tail (Upd.tail Upd.head)))) | exact Upd.tail (Upd.tail (Upd.tail (Upd.tail (Upd.tail (Upd.tail Upd.head)))))) (by first | rfl | exact Enc.len _ _) (by repeat (first | exact Ones.nil | exact Enc.ones _ _ | refine Ones.cons rfl ?_)) (by first | exact Nat.le_of_ble_eq_true rfl | (simp only [Enc.len]; decide)) ?_
                refine RW.nil (EX.seq (CW.ret ?_))
                refine EX.fin1' Tryd.results11 (RV.cellA ag24 rfl (by first | exact Has.head | exact Has.tail Has.head | exact Has.tail (Has.tail Has.head) | exact Has.tail (Has.tail (Has.tail Has.head)) | exact Has.tail (Has.tail (Has.tail (Has.tail Has.head))) | exact Has.tail (Has.tail (Has.tail (Has.tail (Has.tail Has.head)))) | exact Has.tail (Has.tail (Has.tail (Has.tail (Has.tail (Has.tail Has.head)))))) rfl rfl) (fun wz hw => ?_)
                -- mq: done
                exact ⟨by rw [hro, if_neg (fun h => h.1.elim g0p g1p)]; rfl, hw.ext⟩
end Go.Proofs.YtemcblinkicblaaDoor.Mq
