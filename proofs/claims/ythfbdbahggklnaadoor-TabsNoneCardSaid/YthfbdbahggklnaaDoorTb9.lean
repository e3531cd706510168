/- tabs: walks of TabsNone, TabsSteps -/
import Derived.Test.YthfbdbahggklnaaDoorTb8
namespace Go.Proofs.YthfbdbahggklnaaDoor.Mq
open Go Go.RowKit Go.Proofs

theorem lawNone_c (w : World) (hg : Gt w) (cols x k : Int) (hc64 : -9223372036854775808 ≤ cols ∧ cols ≤ 9223372036854775807) :
    Calls Tryd.prog 7 [.int .i64 cols, .int .i64 x, .int .i64 k].toArray w (fun e w' => e = .returned (.bool true) ∧ Ext [] w w') := by
  refine calls (n := 85) Tryd.func7 rfl Tryd.ntmps7 rfl ?_
  refine CW.sub (H' := SH w [] []) ?_ (Sub.refl _) (fun x hx => SH.start' _ _ hx)
  refine CW.seq (CW.region ?_)
  refine RW.assign rfl rfl ?_
  refine RW.nil (EX.seq (CW.seq ?_))
  -- mq: region
  refine CW.region ?_
  refine RW.move rfl rfl ?_
  -- mq: at
  by_cases hf : 2 ≤ cols ∧ cols ≤ 1000
  · skip
    obtain ⟨n, rfl⟩ : ∃ n : Nat, cols = (n : Int) := ⟨cols.toNat, by omega⟩
    refine RW.callNew rfl ca9 rfl (fun w' _ => new_c w' n (by omega)) (fun s hs => ?_)
    obtain ⟨g, i⟩ := s
    dsimp only at hs ⊢
    refine RW.move rfl rfl ?_
    refine RW.extract rfl rfl rfl ?_
    refine RW.extract rfl rfl rfl ?_
    refine RW.assign rfl rfl ?_
    refine RW.assign rfl rfl ?_
    refine RW.nil (EX.seq (CW.seq (CW.seq (CW.region ?_))))
    refine RW.move rfl rfl ?_
    refine RW.lss rfl rfl rfl ?_
    refine RW.move rfl rfl ?_
    refine RW.guardT rfl rfl (decide_eq_false (by omega)) ?_
    refine RW.move rfl rfl ?_
    refine RW.guardT rfl rfl (decide_eq_false (by omega)) ?_
    refine RW.gtr rfl rfl rfl ?_
    refine RW.pickC rfl rfl (decide_eq_false (by omega)) rfl ?_
    refine RW.nil (EX.seq ?_)
    -- mq: cond
    refine CW.condF rfl ((decide_eq_false (by omega))) ?_
    refine CW.seq (CW.region ?_)
    refine RW.move rfl rfl ?_
    refine RW.eqlP Tryd.underlying25 rfl rfl rfl ?_
    refine RW.move rfl rfl ?_
    refine RW.guardT rfl rfl rfl ?_
    refine RW.move rfl rfl ?_
    refine RW.guardT rfl rfl rfl ?_
    refine RW.neqI rfl rfl rfl ?_
    refine RW.pickC rfl rfl rfl rfl ?_
    refine RW.move rfl rfl ?_
    refine RW.guardT rfl rfl rfl ?_
    refine RW.move rfl rfl ?_
    refine RW.guardT rfl rfl rfl ?_
    refine RW.call rfl ca10 rfl (fun w' hw' => cols_n hs (hw'.has Has.head)) ?_
    refine RW.guardT rfl rfl rfl ?_
    refine RW.move rfl rfl ?_
    refine RW.guardT rfl rfl rfl ?_
    refine RW.neqI rfl rfl rfl ?_
    refine RW.pickC rfl rfl rfl rfl ?_
    refine RW.nil (EX.seq ?_)
    -- mq: cond
    refine CW.condF rfl ((by simp)) ?_
    refine CW.skip (EX.seq (CW.seq (CW.region ?_)))
    refine RW.assign rfl rfl ?_
    refine RW.nil (EX.seq (CW.seq ?_))
    -- mq: region
    refine CW.region ?_
    refine RW.move rfl rfl ?_
    refine RW.move rfl rfl ?_
    refine RW.call rfl ca11 rfl (fun w' hw' => set_nil w' x) ?_
    refine RW.nil (EX.seq (CW.seq ?_))
    -- mq: region
    refine CW.region ?_
    refine RW.move rfl rfl ?_
    refine RW.move rfl rfl ?_
    refine RW.call rfl ca13 rfl (fun w' hw' => clear_nil w' x) ?_
    refine RW.nil (EX.seq (CW.seq ?_))
    -- mq: region
    refine CW.region ?_
    refine RW.move rfl rfl ?_
    refine RW.call rfl ca16 rfl (fun w' hw' => none_nil w') ?_
    refine RW.nil (EX.seq (CW.seq ?_))
    -- mq: region
    refine CW.region ?_
    refine RW.move rfl rfl ?_
    refine RW.call rfl ca10 rfl (fun w' hw' => cols_nil w') ?_
    refine RW.eqlI rfl rfl rfl ?_
    refine RW.move rfl rfl ?_
    refine RW.guardT rfl rfl rfl ?_
    refine RW.move rfl rfl ?_
    refine RW.guardT rfl rfl rfl ?_
    refine RW.move rfl rfl ?_
    refine RW.guardT rfl rfl rfl ?_
    refine RW.call rfl ca12 rfl (fun w' hw' => has_nil w' x) ?_
    refine RW.guardT rfl rfl rfl ?_
    refine RW.not_ rfl rfl ?_
    refine RW.pickB rfl rfl rfl rfl ?_
    refine RW.move rfl rfl ?_
    refine RW.guardT rfl rfl rfl ?_
    refine RW.move rfl rfl ?_
    refine RW.guardT rfl rfl rfl ?_
    refine RW.move rfl rfl ?_
    refine RW.guardT rfl rfl rfl ?_
    refine RW.move rfl rfl ?_
    refine RW.guardT rfl rfl rfl ?_
    refine RW.call rfl ca22 rfl (fun w' hw' => next_nil w' x k) ?_
    refine RW.guardT rfl rfl rfl ?_
    refine RW.eqlI rfl rfl rfl ?_
    refine RW.pickB rfl rfl rfl rfl ?_
    refine RW.move rfl rfl ?_
    refine RW.guardT rfl rfl rfl ?_
    refine RW.move rfl rfl ?_
    refine RW.guardT rfl rfl rfl ?_
    refine RW.move rfl rfl ?_
    refine RW.guardT rfl rfl rfl ?_
    refine RW.move rfl rfl ?_
    refine RW.guardT rfl rfl rfl ?_
    refine RW.call rfl ca23 rfl (fun w' hw' => ahead_nil w' x k) ?_
    refine RW.guardT rfl rfl rfl ?_
    refine RW.eqlI rfl rfl rfl ?_
    refine RW.pickB rfl rfl rfl rfl ?_
    refine RW.move rfl rfl ?_
    refine RW.guardT rfl rfl rfl ?_
    refine RW.move rfl rfl ?_
    refine RW.guardT rfl rfl rfl ?_
    refine RW.move rfl rfl ?_
    refine RW.guardT rfl rfl rfl ?_
    refine RW.call rfl ca17 rfl (fun w' hw' => size_err w' none (n : Int) (.inl rfl)) ?_
    refine RW.guardT rfl rfl rfl ?_
    refine RW.eqlI rfl rfl rfl ?_
    refine RW.pickB rfl rfl rfl rfl ?_
    refine RW.move rfl rfl ?_
    refine RW.guardT rfl rfl rfl ?_
    refine RW.move rfl rfl ?_
    refine RW.guardT rfl rfl rfl ?_
    refine RW.call rfl ca20 rfl (fun w' hw' => list_nil w') ?_
    refine RW.guardT rfl rfl rfl ?_
    refine RW.lenSl Tryd.underlying42 rfl rfl ?_
    refine RW.guardT rfl rfl rfl ?_
    refine RW.eqlI rfl rfl rfl ?_
    refine RW.pickB rfl rfl rfl rfl ?_
    refine RW.move rfl rfl ?_
    refine RW.guardT rfl rfl rfl ?_
    refine RW.call rfl ca8 rfl (fun w' hw' => awake_c w' (hg.ext hw'.ext)) ?_
    refine RW.pickB rfl rfl rfl rfl ?_
    refine RW.assign rfl rfl ?_
    refine RW.nil (EX.seq (CW.ret ?_))
    refine EX.fin1 Tryd.results7 rfl (fun wz hw => ?_)
    -- mq: done
    exact ⟨rfl, hw.ext⟩
  · skip
    refine RW.call rfl ca9 rfl (fun w' _ => new_err w' cols hf) ?_
    refine RW.move rfl rfl ?_
    refine RW.extract rfl rfl rfl ?_
    refine RW.extract rfl rfl rfl ?_
    refine RW.assign rfl rfl ?_
    refine RW.assign rfl rfl ?_
    refine RW.nil (EX.seq (CW.seq (CW.seq (CW.region ?_))))
    refine RW.move rfl rfl ?_
    refine RW.lss rfl rfl rfl ?_
    refine RW.move rfl rfl ?_
    -- mq: guard slot 17
    refine RW.casesB 17 rfl (fun h1 => ?_) (fun h1 => ?_)
    · skip
      have h1p := of_decide_eq_true h1
      refine RW.guardF rfl rfl rfl h1 ?_
      refine RW.guardF rfl rfl rfl h1 ?_
      refine RW.pickB rfl rfl h1 rfl ?_
      refine RW.nil (EX.seq ?_)
      -- mq: cond
      refine CW.condT rfl (rfl) ?_
      refine CW.seq (CW.region ?_)
      refine RW.move rfl rfl ?_
      refine RW.neqP Tryd.underlying25 rfl rfl rfl ?_
      refine RW.move rfl rfl ?_
      refine RW.guardT rfl rfl rfl ?_
      refine RW.move rfl rfl ?_
      refine RW.guardT rfl rfl rfl ?_
      refine RW.neqI rfl rfl rfl ?_
      refine RW.pickC rfl rfl rfl rfl ?_
      refine RW.nil (EX.seq ?_)
      -- mq: cond
      refine CW.condF rfl (rfl) ?_
      refine CW.skip (EX.seq (CW.seq (CW.region ?_)))
      refine RW.assign rfl rfl ?_
      refine RW.nil (EX.seq (CW.seq ?_))
      -- mq: region
      refine CW.region ?_
      refine RW.move rfl rfl ?_
      refine RW.move rfl rfl ?_
      refine RW.call rfl ca11 rfl (fun w' hw' => set_nil w' x) ?_
      refine RW.nil (EX.seq (CW.seq ?_))
      -- mq: region
      refine CW.region ?_
      refine RW.move rfl rfl ?_
      refine RW.move rfl rfl ?_
      refine RW.call rfl ca13 rfl (fun w' hw' => clear_nil w' x) ?_
      refine RW.nil (EX.seq (CW.seq ?_))
      -- mq: region
      refine CW.region ?_
      refine RW.move rfl rfl ?_
      refine RW.call rfl ca16 rfl (fun w' hw' => none_nil w') ?_
      refine RW.nil (EX.seq (CW.seq ?_))
      -- mq: region
      refine CW.region ?_
      refine RW.move rfl rfl ?_
      refine RW.call rfl ca10 rfl (fun w' hw' => cols_nil w') ?_
      refine RW.eqlI rfl rfl rfl ?_
      refine RW.move rfl rfl ?_
      refine RW.guardT rfl rfl rfl ?_
      refine RW.move rfl rfl ?_
      refine RW.guardT rfl rfl rfl ?_
      refine RW.move rfl rfl ?_
      refine RW.guardT rfl rfl rfl ?_
      refine RW.call rfl ca12 rfl (fun w' hw' => has_nil w' x) ?_
      refine RW.guardT rfl rfl rfl ?_
      refine RW.not_ rfl rfl ?_
      refine RW.pickB rfl rfl rfl rfl ?_
      refine RW.move rfl rfl ?_
      refine RW.guardT rfl rfl rfl ?_
      refine RW.move rfl rfl ?_
      refine RW.guardT rfl rfl rfl ?_
      refine RW.move rfl rfl ?_
      refine RW.guardT rfl rfl rfl ?_
      refine RW.move rfl rfl ?_
      refine RW.guardT rfl rfl rfl ?_
      refine RW.call rfl ca22 rfl (fun w' hw' => next_nil w' x k) ?_
      refine RW.guardT rfl rfl rfl ?_
      refine RW.eqlI rfl rfl rfl ?_
      refine RW.pickB rfl rfl rfl rfl ?_
      refine RW.move rfl rfl ?_
      refine RW.guardT rfl rfl rfl ?_
      refine RW.move rfl rfl ?_
      refine RW.guardT rfl rfl rfl ?_
      refine RW.move rfl rfl ?_
      refine RW.guardT rfl rfl rfl ?_
      refine RW.move rfl rfl ?_
      refine RW.guardT rfl rfl rfl ?_
      refine RW.call rfl ca23 rfl (fun w' hw' => ahead_nil w' x k) ?_
      refine RW.guardT rfl rfl rfl ?_
      refine RW.eqlI rfl rfl rfl ?_
      refine RW.pickB rfl rfl rfl rfl ?_
      refine RW.move rfl rfl ?_
      refine RW.guardT rfl rfl rfl ?_
      refine RW.move rfl rfl ?_
      refine RW.guardT rfl rfl rfl ?_
      refine RW.move rfl rfl ?_
      refine RW.guardT rfl rfl rfl ?_
      refine RW.call rfl ca17 rfl (fun w' hw' => size_err w' none cols (.inl rfl)) ?_
      refine RW.guardT rfl rfl rfl ?_
      refine RW.eqlI rfl rfl rfl ?_
      refine RW.pickB rfl rfl rfl rfl ?_
      refine RW.move rfl rfl ?_
      refine RW.guardT rfl rfl rfl ?_
      refine RW.move rfl rfl ?_
      refine RW.guardT rfl rfl rfl ?_
      refine RW.call rfl ca20 rfl (fun w' hw' => list_nil w') ?_
      refine RW.guardT rfl rfl rfl ?_
      refine RW.lenSl Tryd.underlying42 rfl rfl ?_
      refine RW.guardT rfl rfl rfl ?_
      refine RW.eqlI rfl rfl rfl ?_
      refine RW.pickB rfl rfl rfl rfl ?_
      refine RW.move rfl rfl ?_
      refine RW.guardT rfl rfl rfl ?_
      refine RW.call rfl ca8 rfl (fun w' hw' => awake_c w' (hg.ext hw'.ext)) ?_
      refine RW.pickB rfl rfl rfl rfl ?_
      refine RW.assign rfl rfl ?_
      refine RW.nil (EX.seq (CW.ret ?_))
      refine EX.fin1 Tryd.results7 rfl (fun wz hw => ?_)
      -- mq: done
      exact ⟨rfl, hw.ext⟩
    · skip
      have h1p := of_decide_eq_false h1
      refine RW.guardT rfl rfl h1 ?_
      refine RW.move rfl rfl ?_
      refine RW.guardT rfl rfl h1 ?_
      refine RW.gtr rfl rfl rfl ?_
      refine RW.pickC rfl rfl h1 rfl ?_
      refine RW.nil (EX.seq ?_)
      -- mq: cond
      refine CW.condT rfl ((decide_eq_true (by omega))) ?_
      refine CW.seq (CW.region ?_)
      refine RW.move rfl rfl ?_
      refine RW.neqP Tryd.underlying25 rfl rfl rfl ?_
      refine RW.move rfl rfl ?_
      refine RW.guardT rfl rfl rfl ?_
      refine RW.move rfl rfl ?_
      refine RW.guardT rfl rfl rfl ?_
      refine RW.neqI rfl rfl rfl ?_
      refine RW.pickC rfl rfl rfl rfl ?_
      refine RW.nil (EX.seq ?_)
      -- mq: cond
      refine CW.condF rfl (rfl) ?_
      refine CW.skip (EX.seq (CW.seq (CW.region ?_)))
      refine RW.assign rfl rfl ?_
      refine RW.nil (EX.seq (CW.seq ?_))
      -- mq: region
      refine CW.region ?_
      refine RW.move rfl rfl ?_
      refine RW.move rfl rfl ?_
      refine RW.call rfl ca11 rfl (fun w' hw' => set_nil w' x) ?_
      refine RW.nil (EX.seq (CW.seq ?_))
      -- mq: region
      refine CW.region ?_
      refine RW.move rfl rfl ?_
      refine RW.move rfl rfl ?_
      refine RW.call rfl ca13 rfl (fun w' hw' => clear_nil w' x) ?_
      refine RW.nil (EX.seq (CW.seq ?_))
      -- mq: region
      refine CW.region ?_
      refine RW.move rfl rfl ?_
      refine RW.call rfl ca16 rfl (fun w' hw' => none_nil w') ?_
      refine RW.nil (EX.seq (CW.seq ?_))
      -- mq: region
      refine CW.region ?_
      refine RW.move rfl rfl ?_
      refine RW.call rfl ca10 rfl (fun w' hw' => cols_nil w') ?_
      refine RW.eqlI rfl rfl rfl ?_
      refine RW.move rfl rfl ?_
      refine RW.guardT rfl rfl rfl ?_
      refine RW.move rfl rfl ?_
      refine RW.guardT rfl rfl rfl ?_
      refine RW.move rfl rfl ?_
      refine RW.guardT rfl rfl rfl ?_
      refine RW.call rfl ca12 rfl (fun w' hw' => has_nil w' x) ?_
      refine RW.guardT rfl rfl rfl ?_
      refine RW.not_ rfl rfl ?_
      refine RW.pickB rfl rfl rfl rfl ?_
      refine RW.move rfl rfl ?_
      refine RW.guardT rfl rfl rfl ?_
      refine RW.move rfl rfl ?_
      refine RW.guardT rfl rfl rfl ?_
      refine RW.move rfl rfl ?_
      refine RW.guardT rfl rfl rfl ?_
      refine RW.move rfl rfl ?_
      refine RW.guardT rfl rfl rfl ?_
      refine RW.call rfl ca22 rfl (fun w' hw' => next_nil w' x k) ?_
      refine RW.guardT rfl rfl rfl ?_
      refine RW.eqlI rfl rfl rfl ?_
      refine RW.pickB rfl rfl rfl rfl ?_
      refine RW.move rfl rfl ?_
      refine RW.guardT rfl rfl rfl ?_
      refine RW.move rfl rfl ?_
      refine RW.guardT rfl rfl rfl ?_
      refine RW.move rfl rfl ?_
      refine RW.guardT rfl rfl rfl ?_
      refine RW.move rfl rfl ?_
      refine RW.guardT rfl rfl rfl ?_
      refine RW.call rfl ca23 rfl (fun w' hw' => ahead_nil w' x k) ?_
      refine RW.guardT rfl rfl rfl ?_
      refine RW.eqlI rfl rfl rfl ?_
      refine RW.pickB rfl rfl rfl rfl ?_
      refine RW.move rfl rfl ?_
      refine RW.guardT rfl rfl rfl ?_
      refine RW.move rfl rfl ?_
      refine RW.guardT rfl rfl rfl ?_
      refine RW.move rfl rfl ?_
      refine RW.guardT rfl rfl rfl ?_
      refine RW.call rfl ca17 rfl (fun w' hw' => size_err w' none cols (.inl rfl)) ?_
      refine RW.guardT rfl rfl rfl ?_
      refine RW.eqlI rfl rfl rfl ?_
      refine RW.pickB rfl rfl rfl rfl ?_
      refine RW.move rfl rfl ?_
      refine RW.guardT rfl rfl rfl ?_
      refine RW.move rfl rfl ?_
      refine RW.guardT rfl rfl rfl ?_
      refine RW.call rfl ca20 rfl (fun w' hw' => list_nil w') ?_
      refine RW.guardT rfl rfl rfl ?_
      refine RW.lenSl Tryd.underlying42 rfl rfl ?_
      refine RW.guardT rfl rfl rfl ?_
      refine RW.eqlI rfl rfl rfl ?_
      refine RW.pickB rfl rfl rfl rfl ?_
      refine RW.move rfl rfl ?_
      refine RW.guardT rfl rfl rfl ?_
      refine RW.call rfl ca8 rfl (fun w' hw' => awake_c w' (hg.ext hw'.ext)) ?_
      refine RW.pickB rfl rfl rfl rfl ?_
      refine RW.assign rfl rfl ?_
      refine RW.nil (EX.seq (CW.ret ?_))
      refine EX.fin1 Tryd.results7 rfl (fun wz hw => ?_)
      -- mq: done
      exact ⟨rfl, hw.ext⟩
theorem timesB_one {f : Nat → Nat} {n y : Nat} (h1 : 0 < n) (hy : y < n) : timesB f n (y : Int) 1 = f y := by
  unfold timesB
  rw [clampB_id hy, show (min (max 0 (1 : Int)) (n : Int)).toNat = 1 by omega]
  rfl
theorem timesB_zero {f : Nat → Nat} {n : Nat} (x : Int) : timesB f n x 0 = clampB n x := by
  unfold timesB
  rw [show (min (max 0 (0 : Int)) (n : Int)).toNat = 0 by omega]
  rfl
theorem timesB_all {bs : List Bool} {n : Nat} (hl : bs.length = n) (hp : 0 < n) (x : Int) (K : Nat) : timesB (afterB bs) n x (K : Int) = iter (afterB bs) K (clampB n x) := by
  subst hl
  have hc := clampB_lt (n := bs.length) x hp
  unfold timesB
  rcases Nat.lt_or_ge K bs.length with h | h
  · congr 1; omega
  · rw [up_fix hc K h]
    congr 1; omega
theorem lawSteps_c (w : World) (hg : Gt w) (cols : Nat) (hcols : cols < 65536) (x : Int) (N : Nat) (hN : N < 256) :
    Calls Tryd.prog 5 [.int .u16 (cols : Int), .int .i64 x, .int .u8 (N : Int)].toArray w (fun e w' => e = .returned (.bool true) ∧ Ext [] w w') := by
  refine calls (n := 66) Tryd.func5 rfl Tryd.ntmps5 rfl ?_
  refine CW.sub (H' := SH w [] []) ?_ (Sub.refl _) (fun x hx => SH.start' _ _ hx)
  refine CW.seq (CW.region ?_)
  refine RW.assign rfl rfl ?_
  refine RW.nil (EX.seq (CW.seq (CW.seq ?_)))
  -- mq: region
  refine CW.region ?_
  refine RW.call rfl ca8 rfl (fun w' hw' => awake_c w' (hg.ext hw'.ext)) ?_
  refine RW.not_ rfl rfl ?_
  refine RW.nil (EX.seq ?_)
  -- mq: cond
  refine CW.condF rfl (rfl) ?_
  refine CW.skip (EX.seq (CW.seq (CW.region ?_)))
  refine RW.move rfl rfl ?_
  refine RW.remN rfl rfl rfl (by omega) (by omega) ?_
  refine RW.convI rfl rfl Tryd.underlying22 Tryd.underlying3 (wrap64 (by omega) (by omega)) ?_
  refine RW.add rfl rfl rfl (wrap64 (by omega) (by omega)) ?_
  -- mq: at
  rw [colsF_eq]
  obtain ⟨n, hn⟩ : ∃ n, colsF cols = n := ⟨_, rfl⟩
  have hnr := colsF_range cols
  rw [hn] at hnr ⊢
  refine RW.callNew rfl ca9 rfl (fun w' _ => new_c w' n hnr) (fun s hs => ?_)
  obtain ⟨g, i⟩ := s
  dsimp only at hs ⊢
  have hl : (sizeB [] n).length = n := sizeB_len _ _
  have hp : 0 < n := by omega
  generalize sizeB [] n = b at *
  refine RW.move rfl rfl ?_
  refine RW.extract rfl rfl rfl ?_
  refine RW.extract rfl rfl rfl ?_
  refine RW.assign rfl rfl ?_
  refine RW.assign rfl rfl ?_
  refine RW.nil (EX.seq (CW.seq (CW.seq (CW.region ?_))))
  refine RW.move rfl rfl ?_
  refine RW.neqI rfl rfl rfl ?_
  refine RW.move rfl rfl ?_
  refine RW.guardT rfl rfl rfl ?_
  refine RW.move rfl rfl ?_
  refine RW.guardT rfl rfl rfl ?_
  refine RW.eqlP Tryd.underlying25 rfl rfl rfl ?_
  refine RW.pickC rfl rfl rfl rfl ?_
  refine RW.nil (EX.seq ?_)
  -- mq: cond
  refine CW.condF rfl (rfl) ?_
  refine CW.skip (EX.seq (CW.seq ?_))
  -- mq: region
  refine CW.region ?_
  refine RW.move rfl rfl ?_
  refine RW.move rfl rfl ?_
  refine RW.call rfl ca22 rfl (fun w' hw' => next_n (hg.ext hw'.ext) hs hl (hw'.has Has.head) hp x 0) ?_
  refine RW.assign rfl rfl ?_
  refine RW.nil (EX.seq (CW.seq (CW.seq (CW.region ?_))))
  refine RW.assign rfl rfl ?_
  refine RW.nil (EX.seq (CW.block ?_))
  -- mq: loop
  rw [timesB_zero]
  have hx0 := clampB_lt (n := n) x hp
  have htt := timesB_all hl hp x (N % 40)
  generalize clampB n x = x0 at *
  have hF : ∀ y, y < n → afterB b y < n := fun y hy => by rw [← hl]; exact afterB_lt y (by omega)
  refine CW.loop (ι := Nat) (fun j => [(1, .int .i64 x), (2, .int .u8 (N : Int)), (7, ptr g), (9, .int .i64 (iter (afterB b) j x0 : Int)), (10, .int .i64 (j : Int))]) (fun _ => SH w [] [stp g n i]) (fun j => j ≤ N % 40) (fun j => N % 40 - j) ?_ ?_
  · exact fun w hw => ⟨0, Nat.zero_le _, (by repeat (first | exact Sub.nil | refine Sub.cons (by rfl) ?_)), hw⟩
  · intro j hj
    have hy := iter_lt hF j x0 hx0
    have hit : iter (afterB b) (j + 1) x0 = afterB b (iter (afterB b) j x0) := rfl
    refine CW.seq (CW.seq (CW.region ?_))
    refine RW.move rfl rfl ?_
    refine RW.move rfl rfl ?_
    refine RW.remN rfl rfl rfl (by omega) (by omega) ?_
    refine RW.convI rfl rfl Tryd.underlying5 Tryd.underlying3 (wrap64 (by omega) (by omega)) ?_
    refine RW.lss rfl rfl rfl ?_
    refine RW.nil (EX.seq ?_)
    -- mq: cond
    first | refine CW.condD rfl (fun hlt => ?_) (fun hlt => ?_) | refine CW.cond rfl (fun hlt => ?_) (fun hlt => ?_)
    · skip
      generalize iter (afterB b) j x0 = y at *
      have h1 := (afterB_ge (bs := b) (x := y) (by omega)).2
      have h2 := back_after (bs := b) (x := y) (by omega)
      have h3 := hF y hy
      have h4 := timesB_one (f := afterB b) hp hy
      have h5 := timesB_one (f := beforeB b) hp h3
      refine CW.skip (EX.seq (CW.seq (CW.block (CW.seq (CW.region ?_)))))
      refine RW.move rfl rfl ?_
      refine RW.move rfl rfl ?_
      refine RW.call rfl ca22 rfl (fun w' hw' => next_n (hg.ext hw'.ext) hs hl (hw'.has Has.head) hp y 1) ?_
      refine RW.assign rfl rfl ?_
      refine RW.nil (EX.seq (CW.seq (CW.seq ?_)))
      -- mq: region
      rw [h4]
      refine CW.region ?_
      refine RW.move rfl rfl ?_
      refine RW.move rfl rfl ?_
      refine RW.lss rfl rfl rfl ?_
      refine RW.move rfl rfl ?_
      refine RW.guardT rfl rfl (decide_eq_false (by omega)) ?_
      refine RW.move rfl rfl ?_
      refine RW.guardT rfl rfl (decide_eq_false (by omega)) ?_
      refine RW.move rfl rfl ?_
      refine RW.guardT rfl rfl (decide_eq_false (by omega)) ?_
      refine RW.call rfl ca23 rfl (fun w' hw' => ahead_n hs hl (hw'.has Has.head) hp (afterB b y : Int) 1) ?_
      refine RW.guardT rfl rfl (decide_eq_false (by omega)) ?_
      refine RW.move rfl rfl ?_
      refine RW.guardT rfl rfl (decide_eq_false (by omega)) ?_
      refine RW.gtr rfl rfl rfl ?_
      refine RW.pickC rfl rfl (decide_eq_false (by omega)) rfl ?_
      refine RW.nil (EX.seq ?_)
      -- mq: cond
      refine CW.condF rfl ((decide_eq_false (by rw [h5]; omega))) ?_
      refine CW.skip (EX.seq (CW.region ?_))
      refine RW.move rfl rfl ?_
      refine RW.assign rfl rfl ?_
      refine RW.nil (EX.bkN (EX.seq (CW.region ?_)))
      refine RW.move rfl rfl ?_
      refine RW.add rfl rfl rfl (wrap64 (by omega) (by omega)) ?_
      refine RW.assign rfl rfl ?_
      refine RW.nil ?_
      -- mq: loopend
      exact EX.lpN (j + 1) (by omega) (by omega) (Sub.cons (by rfl) (Sub.cons (by rfl) (Sub.cons (by rfl) (Sub.cons (by rw [hit]; rfl) (Sub.cons (by rfl) Sub.nil))))) (fun w' hw' => hw')
    · skip
      obtain rfl : j = N % 40 := by omega
      refine CW.exit (EX.seqE (EX.lpE (EX.bkE (EX.seq (CW.seq (CW.region ?_))))))
      refine RW.move rfl rfl ?_
      refine RW.move rfl rfl ?_
      refine RW.move rfl rfl ?_
      refine RW.move rfl rfl ?_
      refine RW.remN rfl rfl rfl (by omega) (by omega) ?_
      refine RW.convI rfl rfl Tryd.underlying5 Tryd.underlying3 (wrap64 (by omega) (by omega)) ?_
      refine RW.call rfl ca22 rfl (fun w' hw' => next_n (hg.ext hw'.ext) hs hl (hw'.has Has.head) hp x ((N : Int) % 40)) ?_
      refine RW.eqlI rfl rfl rfl ?_
      refine RW.move rfl rfl ?_
      refine RW.guardT rfl rfl (decide_eq_true (by rw [show ((N : Int) % 40) = ((N % 40 : Nat) : Int) by omega, htt])) ?_
      refine RW.move rfl rfl ?_
      refine RW.guardT rfl rfl (decide_eq_true (by rw [show ((N : Int) % 40) = ((N % 40 : Nat) : Int) by omega, htt])) ?_
      refine RW.move rfl rfl ?_
      refine RW.guardT rfl rfl (decide_eq_true (by rw [show ((N : Int) % 40) = ((N % 40 : Nat) : Int) by omega, htt])) ?_
      refine RW.call rfl ca10 rfl (fun w' hw' => cols_n hs (hw'.has Has.head)) ?_
      refine RW.guardT rfl rfl (decide_eq_true (by rw [show ((N : Int) % 40) = ((N % 40 : Nat) : Int) by omega, htt])) ?_
      refine RW.lss rfl rfl rfl ?_
      refine RW.pickB rfl rfl (decide_eq_true (by rw [show ((N : Int) % 40) = ((N % 40 : Nat) : Int) by omega, htt])) rfl ?_
      refine RW.assign rfl rfl ?_
      refine RW.nil (EX.seq (CW.ret ?_))
      refine EX.fin1 Tryd.results5 rfl (fun wz hw => ?_)
      -- mq: done
      exact ⟨by rw [decide_eq_true (by omega)], hw.ext⟩
end Go.Proofs.YthfbdbahggklnaaDoor.Mq
