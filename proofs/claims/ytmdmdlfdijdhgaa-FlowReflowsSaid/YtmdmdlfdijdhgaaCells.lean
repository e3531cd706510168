/- walks of package cells, as far as flow goes: empty, pair, mend, with, Mend, Used -/
import Derived.Test.YtmdmdlfdijdhgaaData
namespace Go.Proofs.Ytmdmdlfdijdhgaa.Mq
open Go Go.RowKit Go.Proofs

theorem empty_c (w : World) (a : AttrV) : Calls Try.prog 48 [.agg a.enc.toArray].toArray w (fun e w' => e = .returned (.agg (emptyC a).enc.toArray) ∧ Ext [] w w') := by
  refine calls (n := 5) Try.func48 rfl Try.ntmps48 rfl ?_
  refine CW.sub (H' := SH w [] []) ?_ (Sub.refl _) (fun x hx => SH.start' _ _ hx)
  refine CW.seq (CW.region ?_)
  refine RW.boxA rfl rfl (fun g1 hg1 hf1 => ?_)
  refine RW.allocA ag34 rfl (fun g2 hg2 hf2 => ?_)
  refine RW.nil (EX.seq (CW.seq (CW.region ?_)))
  refine RW.loadBA ag32 rfl rfl (by first | exact Has.head | exact Has.tail Has.head | exact Has.tail (Has.tail Has.head) | exact Has.tail (Has.tail (Has.tail Has.head)) | exact Has.tail (Has.tail (Has.tail (Has.tail Has.head))) | exact Has.tail (Has.tail (Has.tail (Has.tail (Has.tail Has.head)))) | exact Has.tail (Has.tail (Has.tail (Has.tail (Has.tail (Has.tail Has.head)))))) rfl rfl ?_
  refine RW.buildS bu34 rfl rfl rfl ?_
  refine RW.storeA ag34 rfl rfl (by first | exact Upd.head | exact Upd.tail Upd.head | exact Upd.tail (Upd.tail Upd.head) | exact Upd.tail (Upd.tail (Upd.tail Upd.head)) | exact Upd.tail (Upd.tail (Upd.tail (Upd.tail Upd.head))) | exact Upd.tail (Upd.tail (Upd.tail (Upd.tail (Upd.tail Upd.head)))) | exact Upd.tail (Upd.tail (Upd.tail (Upd.tail (Upd.tail (Upd.tail Upd.head)))))) (by first | rfl | exact Enc.len _ _) (by repeat (first | exact Ones.nil | exact Enc.ones _ _ | refine Ones.cons rfl ?_)) (by first | exact Nat.le_of_ble_eq_true rfl | (simp only [Enc.len]; decide)) ?_
  refine RW.nil (EX.seq (CW.ret ?_))
  refine EX.fin1' Try.results48 (RV.cellA ag34 rfl (by first | exact Has.head | exact Has.tail Has.head | exact Has.tail (Has.tail Has.head) | exact Has.tail (Has.tail (Has.tail Has.head)) | exact Has.tail (Has.tail (Has.tail (Has.tail Has.head))) | exact Has.tail (Has.tail (Has.tail (Has.tail (Has.tail Has.head)))) | exact Has.tail (Has.tail (Has.tail (Has.tail (Has.tail (Has.tail Has.head)))))) rfl rfl) (fun wz hw => ?_)
  -- mq: done
  exact ⟨rfl, hw.ext⟩
theorem pair_c (w : World) (a b : CellV) : Calls Try.prog 47 [.agg a.enc.toArray, .agg b.enc.toArray].toArray w (fun e w' => e = .returned (.bool (pairB a b)) ∧ Ext [] w w') := by
  refine calls (n := 14) Try.func47 rfl Try.ntmps47 rfl ?_
  refine CW.sub (H' := SH w [] []) ?_ (Sub.refl _) (fun x hx => SH.start' _ _ hx)
  refine CW.seq (CW.region ?_)
  refine RW.boxA rfl rfl (fun g2 hg2 hf2 => ?_)
  refine RW.boxA rfl rfl (fun g3 hg3 hf3 => ?_)
  refine RW.assign rfl rfl ?_
  refine RW.nil (EX.seq (CW.seq (CW.region ?_)))
  refine RW.fieldB fl34x2 rfl rfl ?_
  refine RW.store1 sc3 rfl rfl (by first | exact Upd.head | exact Upd.tail Upd.head | exact Upd.tail (Upd.tail Upd.head) | exact Upd.tail (Upd.tail (Upd.tail Upd.head)) | exact Upd.tail (Upd.tail (Upd.tail (Upd.tail Upd.head))) | exact Upd.tail (Upd.tail (Upd.tail (Upd.tail (Upd.tail Upd.head)))) | exact Upd.tail (Upd.tail (Upd.tail (Upd.tail (Upd.tail (Upd.tail Upd.head)))))) rfl (by first | exact Nat.le_of_ble_eq_true rfl | simp) ?_
  refine RW.nil (EX.seq (CW.seq (CW.region ?_)))
  refine RW.fieldB fl34x2 rfl rfl ?_
  refine RW.loadB1 sc3 rfl rfl (by first | exact Has.head | exact Has.tail Has.head | exact Has.tail (Has.tail Has.head) | exact Has.tail (Has.tail (Has.tail Has.head)) | exact Has.tail (Has.tail (Has.tail (Has.tail Has.head))) | exact Has.tail (Has.tail (Has.tail (Has.tail (Has.tail Has.head)))) | exact Has.tail (Has.tail (Has.tail (Has.tail (Has.tail (Has.tail Has.head)))))) rfl ?_
  refine RW.eqlI rfl rfl rfl ?_
  refine RW.move rfl rfl ?_
  -- mq: guard slot 9
  refine RW.casesB 9 rfl (fun h => ?_) (fun h => ?_)
  · skip
    have hp := of_decide_eq_true h
    refine RW.guardT rfl rfl h ?_
    refine RW.loadBA ag34 rfl rfl (by first | exact Has.head | exact Has.tail Has.head | exact Has.tail (Has.tail Has.head) | exact Has.tail (Has.tail (Has.tail Has.head)) | exact Has.tail (Has.tail (Has.tail (Has.tail Has.head))) | exact Has.tail (Has.tail (Has.tail (Has.tail (Has.tail Has.head)))) | exact Has.tail (Has.tail (Has.tail (Has.tail (Has.tail (Has.tail Has.head)))))) rfl rfl ?_
    refine RW.guardT rfl rfl h ?_
    refine RW.loadBA ag34 rfl rfl (by first | exact Has.head | exact Has.tail Has.head | exact Has.tail (Has.tail Has.head) | exact Has.tail (Has.tail (Has.tail Has.head)) | exact Has.tail (Has.tail (Has.tail (Has.tail Has.head))) | exact Has.tail (Has.tail (Has.tail (Has.tail (Has.tail Has.head)))) | exact Has.tail (Has.tail (Has.tail (Has.tail (Has.tail (Has.tail Has.head)))))) rfl rfl ?_
    refine RW.guardT rfl rfl h ?_
    refine RW.eqlSt eq34 rfl rfl rfl (by kernel_rfl) (eqv_cell a { b with half := 1 }) ?_
    refine RW.pickB rfl rfl h rfl ?_
    refine RW.assign rfl rfl ?_
    refine RW.nil (EX.seq (CW.ret ?_))
    refine EX.fin1 Try.results47 rfl (fun wz hw => ?_)
    -- mq: done
    exact ⟨by simp [pairB, hp], hw.ext⟩
  · skip
    have hp := of_decide_eq_false h
    refine RW.guardF rfl rfl rfl h ?_
    refine RW.guardF rfl rfl rfl h ?_
    refine RW.guardF rfl rfl rfl h ?_
    refine RW.pickC rfl rfl h rfl ?_
    refine RW.assign rfl rfl ?_
    refine RW.nil (EX.seq (CW.ret ?_))
    refine EX.fin1 Try.results47 rfl (fun wz hw => ?_)
    -- mq: done
    exact ⟨by simp [pairB, hp], hw.ext⟩

theorem mend_c (w : World) (v : Value) (row : List CellV) (hrow : w.ownsRow 0 34 8 v row.length (ECell.all row)) (hn : row.length ≤ 1000000) :
    Calls Try.prog 46 [v].toArray w (fun e w' => e = .returned (.tuple #[]) ∧ Ext v.ownBlock.toList w w' ∧ w'.ownsRow 0 34 8 v row.length (ECell.all (mendL row))) := by
  refine calls (n := 67) Try.func46 rfl Try.ntmps46 rfl ?_
  refine CW.sub (H' := SH w (own 34 8 v row.length (ECell.all row)).foot [own 34 8 v row.length (ECell.all row)]) ?_ (Sub.refl _) (fun x hx => SH.startOf' hx hrow (own_nodup _ _ _ _ _))
  refine CW.seq (CW.region ?_)
  refine RW.assign rfl rfl ?_
  refine RW.nil (EX.seq (CW.block ?_))
  -- mq: loop
  refine CW.loop (ι := List CellV × List CellV) (fun i => [(0, v), (2, .int .i64 (i.1.length : Int))]) (fun i => SH w (own 34 8 v row.length (ECell.all row)).foot [own 34 8 v row.length (ECell.all (i.1 ++ i.2))]) (fun i => mendL row = i.1 ++ mendL i.2 ∧ i.1.length + i.2.length = row.length) (fun i => i.2.length) ?_ ?_
  · exact fun w hw => ⟨([], row), ⟨rfl, by simp⟩, (by repeat (first | exact Sub.nil | refine Sub.cons (by rfl) ?_)), hw⟩
  · rintro ⟨pre, rest⟩ ⟨hm, hl⟩
    dsimp only at hm hl ⊢
    refine CW.formOwn (v := v) Has.head (fun A co hv hcap hmax hlen hg => ?_)
    subst hv
    refine CW.seq (CW.seq (CW.region ?_))
    refine RW.move rfl rfl ?_
    refine RW.move rfl rfl ?_
    refine RW.lenSl Try.underlying22 rfl rfl ?_
    refine RW.lss rfl rfl rfl ?_
    refine RW.nil (EX.seq ?_)
    -- mq: cond
    first | refine CW.condD rfl (fun hlt => ?_) (fun hlt => ?_) | refine CW.cond rfl (fun hlt => ?_) (fun hlt => ?_)
    · skip
      cases rest with
      | nil => simp at hl; omega
      | cons c rest =>
      obtain ⟨g, rfl⟩ := hg (by omega)
      have hk : (pre ++ c :: rest)[pre.length]? = some c := by simp
      refine CW.skip (EX.seq (CW.seq (CW.block (CW.seq (CW.region ?_)))))
      refine RW.move rfl rfl ?_
      refine RW.move rfl rfl ?_
      refine RW.ixAddr sl22 rfl rfl rfl (by first | rfl | assumption) (by rfl) (by omega) ?_
      refine RW.loadA ag34 rfl rfl (rfl) (fun w' hw' j u hj => hw'.own_at (E := ECell) Has.head hk j u hj) ?_
      refine RW.allocA ag34 rfl (fun g3 hg3 hf3 => ?_)
      refine RW.storeA ag34 rfl rfl (by first | exact Upd.head | exact Upd.tail Upd.head | exact Upd.tail (Upd.tail Upd.head) | exact Upd.tail (Upd.tail (Upd.tail Upd.head)) | exact Upd.tail (Upd.tail (Upd.tail (Upd.tail Upd.head))) | exact Upd.tail (Upd.tail (Upd.tail (Upd.tail (Upd.tail Upd.head)))) | exact Upd.tail (Upd.tail (Upd.tail (Upd.tail (Upd.tail (Upd.tail Upd.head)))))) (by first | rfl | exact Enc.len _ _) (by repeat (first | exact Ones.nil | exact Enc.ones _ _ | refine Ones.cons rfl ?_)) (by first | exact Nat.le_of_ble_eq_true rfl | (simp only [Enc.len]; decide)) ?_
      refine RW.nil (EX.seq (CW.block (CW.seq ?_)))
      -- mq: region
      have hlast : (((pre.length : Int) = (row.length : Int) - 1) ↔ rest = []) := by
        constructor
        · intro h; simp at hl; exact List.eq_nil_of_length_eq_zero (by omega)
        · intro h; subst h; simp at hl; omega
      refine CW.join ([(20, .bool (decide (c.half = 0) || (decide (c.half = 3) && decide ((pre.length : Int) = (row.length : Int) - 1)))), (0, .slice (some ⟨g, 0, none⟩) row.length co), (2, .int .i64 (pre.length : Int)), (3, .pointer (some ⟨g3, 0, none⟩))]) (SH w (own 34 8 (.slice (some ⟨g, 0, none⟩) row.length co) row.length (ECell.all row)).foot [blk g3 c.enc 34, own 34 8 (.slice (some ⟨g, 0, none⟩) row.length co) row.length (ECell.all (pre ++ c :: rest))]) ?_ ?_
      · skip
        refine CW.region ?_
        refine RW.fieldB fl34x2 rfl rfl ?_
        refine RW.loadB1 sc3 rfl rfl (by first | exact Has.head | exact Has.tail Has.head | exact Has.tail (Has.tail Has.head) | exact Has.tail (Has.tail (Has.tail Has.head)) | exact Has.tail (Has.tail (Has.tail (Has.tail Has.head))) | exact Has.tail (Has.tail (Has.tail (Has.tail (Has.tail Has.head)))) | exact Has.tail (Has.tail (Has.tail (Has.tail (Has.tail (Has.tail Has.head)))))) rfl ?_
        refine RW.eqlI rfl rfl rfl ?_
        refine RW.move rfl rfl ?_
        -- mq: guard slot 24
        refine RW.casesB 24 rfl (fun h1 => ?_) (fun h1 => ?_)
        · skip
          have h1p := of_decide_eq_true h1
          refine RW.guardF rfl rfl rfl h1 ?_
          refine RW.guardF rfl rfl rfl h1 ?_
          refine RW.guardF rfl rfl rfl h1 ?_
          refine RW.guardF rfl rfl rfl h1 ?_
          refine RW.guardU rfl rfl rfl ?_
          refine RW.guardU rfl rfl rfl ?_
          refine RW.guardU rfl rfl rfl ?_
          refine RW.guardU rfl rfl rfl ?_
          refine RW.guardU rfl rfl rfl ?_
          refine RW.guardF rfl rfl rfl h1 ?_
          refine RW.pickB rfl rfl h1 rfl ?_
          refine RW.assign rfl rfl ?_
          refine RW.nil ?_
          -- mq: joinend
          exact EX.jn (Sub.cons (congrArg (fun x => some (Value.bool x)) (by simp [h1p])) (by repeat (first | exact Sub.nil | refine Sub.cons (by rfl) ?_))) (fun _ h => h)
        · skip
          have h1p := of_decide_eq_false h1
          refine RW.guardT rfl rfl h1 ?_
          refine RW.fieldB fl34x2 rfl rfl ?_
          refine RW.guardT rfl rfl h1 ?_
          refine RW.loadB1 sc3 rfl rfl (by first | exact Has.head | exact Has.tail Has.head | exact Has.tail (Has.tail Has.head) | exact Has.tail (Has.tail (Has.tail Has.head)) | exact Has.tail (Has.tail (Has.tail (Has.tail Has.head))) | exact Has.tail (Has.tail (Has.tail (Has.tail (Has.tail Has.head)))) | exact Has.tail (Has.tail (Has.tail (Has.tail (Has.tail (Has.tail Has.head)))))) rfl ?_
          refine RW.guardT rfl rfl h1 ?_
          refine RW.eqlI rfl rfl rfl ?_
          refine RW.guardT rfl rfl h1 ?_
          refine RW.move rfl rfl ?_
          -- mq: guard slot 28
          refine RW.casesB 28 rfl (fun h2 => ?_) (fun h2 => ?_)
          · skip
            have h2p := of_decide_eq_true h2
            refine RW.guardT rfl rfl h2 ?_
            refine RW.move rfl rfl ?_
            refine RW.guardT rfl rfl h2 ?_
            refine RW.move rfl rfl ?_
            refine RW.guardT rfl rfl h2 ?_
            refine RW.lenSl Try.underlying22 rfl rfl ?_
            refine RW.guardT rfl rfl h2 ?_
            refine RW.sub_ rfl rfl rfl (wrap64 (by omega) (by omega)) ?_
            refine RW.guardT rfl rfl h2 ?_
            refine RW.eqlI rfl rfl rfl ?_
            refine RW.guardT rfl rfl h1 ?_
            refine RW.pickB rfl rfl h2 rfl ?_
            refine RW.pickC rfl rfl h1 rfl ?_
            refine RW.assign rfl rfl ?_
            refine RW.nil ?_
            -- mq: joinend
            exact EX.jn (Sub.cons (congrArg (fun x => some (Value.bool x)) (by simp [h1p, h2p])) (by repeat (first | exact Sub.nil | refine Sub.cons (by rfl) ?_))) (fun _ h => h)
          · skip
            have h2p := of_decide_eq_false h2
            refine RW.guardF rfl rfl rfl h2 ?_
            refine RW.guardF rfl rfl rfl h2 ?_
            refine RW.guardF rfl rfl rfl h2 ?_
            refine RW.guardF rfl rfl rfl h2 ?_
            refine RW.guardF rfl rfl rfl h2 ?_
            refine RW.guardT rfl rfl h1 ?_
            refine RW.pickC rfl rfl h2 rfl ?_
            refine RW.pickC rfl rfl h1 rfl ?_
            refine RW.assign rfl rfl ?_
            refine RW.nil ?_
            -- mq: joinend
            exact EX.jn (Sub.cons (congrArg (fun x => some (Value.bool x)) (by simp [h1p, h2p])) (by repeat (first | exact Sub.nil | refine Sub.cons (by rfl) ?_))) (fun _ h => h)
      · skip
        refine EX.seq ?_
        -- mq: cond
        first | refine CW.condD rfl (fun hB => ?_) (fun hB => ?_) | refine CW.cond rfl (fun hB => ?_) (fun hB => ?_)
        · skip
          refine CW.skip (EX.bkN (EX.bkN (EX.seq (CW.region ?_))))
          refine RW.move rfl rfl ?_
          refine RW.add rfl rfl rfl (wrap64 (by omega) (by omega)) ?_
          refine RW.assign rfl rfl ?_
          refine RW.nil ?_
          -- mq: loopend
          have hmc : mendL (c :: rest) = c :: mendL rest := by
            rw [Bool.or_eq_true, Bool.and_eq_true] at hB
            simp only [decide_eq_true_eq] at hB
            cases rest with
            | nil => rcases hB with h | ⟨h, _⟩ <;> simp [mendL, h]
            | cons d l =>
              rcases hB with h | ⟨h, h'⟩
              · simp [mendL, h]
              · exact absurd (hlast.1 h') (by simp)
          refine EX.lpN (pre ++ [c], rest) ⟨by rw [hm, hmc]; simp, by simp at hl ⊢; omega⟩ (by simp) (Sub.cons (by rfl) (Sub.cons (by simp [look]) Sub.nil)) (fun w' hw' => ?_)
          have := hw'.rem Rem.head
          simpa using this
        · skip
          rw [Bool.or_eq_false_iff] at hB
          have hh0 : c.half ≠ 0 := of_decide_eq_false hB.1
          refine CW.seq ?_
          -- mq: draw guard slot 40
          refine CW.join ([(36, .bool (nextPairs c rest)), (0, .slice (some ⟨g, 0, none⟩) row.length co), (2, .int .i64 (pre.length : Int)), (3, .pointer (some ⟨g3, 0, none⟩))]) (SH w (own 34 8 (.slice (some ⟨g, 0, none⟩) row.length co) row.length (ECell.all row)).foot [blk g3 c.enc 34, own 34 8 (.slice (some ⟨g, 0, none⟩) row.length co) row.length (ECell.all (pre ++ c :: rest))]) ?_ ?_
          · skip
            by_cases h1 : c.half = 1
            · cases rest with
              | nil =>
                have h2 : decide ((pre.length : Int) + 1 < (row.length : Int)) = false := decide_eq_false (by simp at hl; omega)
                refine CW.drawq mixed (by kernel_rfl) (fun _ hw => hw.drew) ?_
                refine DRq.cons rfl (RW.fieldB fl34x2 rfl rfl RW.jn) ?_
                refine DRq.cons rfl (RW.loadB1 sc3 rfl rfl (by first | exact Has.head | exact Has.tail Has.head | exact Has.tail (Has.tail Has.head) | exact Has.tail (Has.tail (Has.tail Has.head)) | exact Has.tail (Has.tail (Has.tail (Has.tail Has.head))) | exact Has.tail (Has.tail (Has.tail (Has.tail (Has.tail Has.head)))) | exact Has.tail (Has.tail (Has.tail (Has.tail (Has.tail (Has.tail Has.head)))))) rfl RW.jn) ?_
                refine DRq.cons rfl (RW.eqlI rfl rfl rfl RW.jn) ?_
                refine DRq.cons rfl (RW.move rfl rfl RW.jn) ?_
                refine DRq.cons rfl (RW.guardT rfl rfl (decide_eq_true h1) (RW.move rfl rfl RW.jn)) ?_
                refine DRq.cons rfl (RW.guardT rfl rfl (decide_eq_true h1) (RW.add rfl rfl rfl (wrap64 (by omega) (by omega)) RW.jn)) ?_
                refine DRq.cons rfl (RW.guardT rfl rfl (decide_eq_true h1) (RW.move rfl rfl RW.jn)) ?_
                refine DRq.cons rfl (RW.guardT rfl rfl (decide_eq_true h1) (RW.lenSl Try.underlying22 rfl rfl RW.jn)) ?_
                refine DRq.cons rfl (RW.guardT rfl rfl (decide_eq_true h1) (RW.lss rfl rfl rfl RW.jn)) ?_
                refine DRq.cons rfl (RW.pickB rfl rfl (decide_eq_true h1) rfl RW.jn) ?_
                refine DRq.cons rfl (RW.move rfl rfl RW.jn) ?_
                refine DRq.cons rfl (RW.guardF rfl rfl rfl h2 RW.jn) ?_
                refine DRq.cons rfl (RW.guardF rfl rfl rfl h2 RW.jn) ?_
                refine DRq.cons rfl (RW.guardF rfl rfl rfl h2 RW.jn) ?_
                refine DRq.cons rfl (RW.guardF rfl rfl rfl h2 RW.jn) ?_
                refine DRq.cons rfl (RW.guardF rfl rfl rfl h2 RW.jn) ?_
                refine DRq.cons rfl (RW.guardF rfl rfl rfl h2 RW.jn) ?_
                refine DRq.cons rfl (RW.guardF rfl rfl rfl h2 RW.jn) ?_
                refine DRq.cons rfl (RW.pickC rfl rfl h2 rfl RW.jn) ?_
                refine DRq.cons rfl (RW.move rfl rfl RW.jn) ?_
                refine DRq.cons rfl (RW.guardF rfl rfl rfl rfl RW.jn) ?_
                refine DRq.cons rfl (RW.guardF rfl rfl rfl rfl RW.jn) ?_
                refine DRq.cons rfl (RW.guardF rfl rfl rfl rfl RW.jn) ?_
                refine DRq.cons rfl (RW.guardF rfl rfl rfl rfl RW.jn) ?_
                refine DRq.cons rfl (RW.guardF rfl rfl rfl rfl RW.jn) ?_
                refine DRq.cons rfl (RW.guardF rfl rfl rfl rfl RW.jn) ?_
                refine DRq.cons rfl (RW.guardF rfl rfl rfl rfl RW.jn) ?_
                refine DRq.cons rfl (RW.pickC rfl rfl rfl rfl RW.jn) ?_
                refine DRq.cons rfl (RW.assign rfl rfl RW.jn) ?_
                refine DRq.nil ?_
                -- mq: joinend
                exact EX.jn (by repeat (first | exact Sub.nil | refine Sub.cons (by rfl) ?_)) (fun _ h => h)
              | cons d rest =>
                have h2 : decide ((pre.length : Int) + 1 < (row.length : Int)) = true := decide_eq_true (by simp at hl; omega)
                have hl2 : pre.length + 1 < row.length := by simp at hl; omega
                have hk1 : (pre ++ c :: d :: rest)[pre.length + 1]? = some d := by simp [List.getElem?_append_right]
                by_cases h3 : d.half = 2
                · skip
                  refine CW.drawq mixed (by kernel_rfl) (fun _ hw => hw.drew) ?_
                  refine DRq.cons rfl (RW.fieldB fl34x2 rfl rfl RW.jn) ?_
                  refine DRq.cons rfl (RW.loadB1 sc3 rfl rfl (by first | exact Has.head | exact Has.tail Has.head | exact Has.tail (Has.tail Has.head) | exact Has.tail (Has.tail (Has.tail Has.head)) | exact Has.tail (Has.tail (Has.tail (Has.tail Has.head))) | exact Has.tail (Has.tail (Has.tail (Has.tail (Has.tail Has.head)))) | exact Has.tail (Has.tail (Has.tail (Has.tail (Has.tail (Has.tail Has.head)))))) rfl RW.jn) ?_
                  refine DRq.cons rfl (RW.eqlI rfl rfl rfl RW.jn) ?_
                  refine DRq.cons rfl (RW.move rfl rfl RW.jn) ?_
                  refine DRq.cons rfl (RW.guardT rfl rfl (decide_eq_true h1) (RW.move rfl rfl RW.jn)) ?_
                  refine DRq.cons rfl (RW.guardT rfl rfl (decide_eq_true h1) (RW.add rfl rfl rfl (wrap64 (by omega) (by omega)) RW.jn)) ?_
                  refine DRq.cons rfl (RW.guardT rfl rfl (decide_eq_true h1) (RW.move rfl rfl RW.jn)) ?_
                  refine DRq.cons rfl (RW.guardT rfl rfl (decide_eq_true h1) (RW.lenSl Try.underlying22 rfl rfl RW.jn)) ?_
                  refine DRq.cons rfl (RW.guardT rfl rfl (decide_eq_true h1) (RW.lss rfl rfl rfl RW.jn)) ?_
                  refine DRq.cons rfl (RW.pickB rfl rfl (decide_eq_true h1) rfl RW.jn) ?_
                  refine DRq.cons rfl (RW.move rfl rfl RW.jn) ?_
                  refine DRq.cons rfl (RW.guardT rfl rfl h2 (RW.move rfl rfl RW.jn)) ?_
                  refine DRq.cons rfl (RW.guardT rfl rfl h2 (RW.move rfl rfl RW.jn)) ?_
                  refine DRq.cons rfl (RW.guardT rfl rfl h2 (RW.add rfl rfl rfl (wrap64 (by omega) (by omega)) RW.jn)) ?_
                  refine DRq.cons rfl (RW.guardT rfl rfl h2 (RW.ixAddr (q := pre.length + 1) sl22 rfl rfl rfl (by first | rfl | assumption) (by omega) (by omega) RW.jn)) ?_
                  refine DRq.cons rfl (RW.guardT rfl rfl h2 (RW.fieldP fl34x2 rfl rfl RW.jn)) ?_
                  refine DRq.cons rfl (RW.guardT rfl rfl h2 (RW.load1 sc3 rfl rfl (fun w' hw' => hw'.own_at (E := ECell) (by first | exact Has.head | exact Has.tail Has.head | exact Has.tail (Has.tail Has.head) | exact Has.tail (Has.tail (Has.tail Has.head)) | exact Has.tail (Has.tail (Has.tail (Has.tail Has.head))) | exact Has.tail (Has.tail (Has.tail (Has.tail (Has.tail Has.head)))) | exact Has.tail (Has.tail (Has.tail (Has.tail (Has.tail (Has.tail Has.head)))))) hk1 2 _ rfl) RW.jn)) ?_
                  refine DRq.cons rfl (RW.guardT rfl rfl h2 (RW.eqlI rfl rfl rfl RW.jn)) ?_
                  refine DRq.cons rfl (RW.pickB rfl rfl h2 rfl RW.jn) ?_
                  refine DRq.cons rfl (RW.move rfl rfl RW.jn) ?_
                  refine DRq.cons rfl (RW.guardT rfl rfl (decide_eq_true h3) (RW.loadBA ag34 rfl rfl (by first | exact Has.head | exact Has.tail Has.head | exact Has.tail (Has.tail Has.head) | exact Has.tail (Has.tail (Has.tail Has.head)) | exact Has.tail (Has.tail (Has.tail (Has.tail Has.head))) | exact Has.tail (Has.tail (Has.tail (Has.tail (Has.tail Has.head)))) | exact Has.tail (Has.tail (Has.tail (Has.tail (Has.tail (Has.tail Has.head)))))) rfl rfl RW.jn)) ?_
                  refine DRq.cons rfl (RW.guardT rfl rfl (decide_eq_true h3) (RW.move rfl rfl RW.jn)) ?_
                  refine DRq.cons rfl (RW.guardT rfl rfl (decide_eq_true h3) (RW.move rfl rfl RW.jn)) ?_
                  refine DRq.cons rfl (RW.guardT rfl rfl (decide_eq_true h3) (RW.add rfl rfl rfl (wrap64 (by omega) (by omega)) RW.jn)) ?_
                  refine DRq.cons rfl (RW.guardT rfl rfl (decide_eq_true h3) (RW.ixAddr (q := pre.length + 1) sl22 rfl rfl rfl (by first | rfl | assumption) (by omega) (by omega) RW.jn)) ?_
                  refine DRq.cons rfl (RW.guardT rfl rfl (decide_eq_true h3) (RW.loadA ag34 rfl rfl (rfl) (fun w' hw' j u hj => hw'.own_at (E := ECell) (by first | exact Has.head | exact Has.tail Has.head | exact Has.tail (Has.tail Has.head) | exact Has.tail (Has.tail (Has.tail Has.head)) | exact Has.tail (Has.tail (Has.tail (Has.tail Has.head))) | exact Has.tail (Has.tail (Has.tail (Has.tail (Has.tail Has.head)))) | exact Has.tail (Has.tail (Has.tail (Has.tail (Has.tail (Has.tail Has.head)))))) hk1 j u hj) RW.jn)) ?_
                  refine DRq.cons rfl (RW.guardT rfl rfl (decide_eq_true h3) (RW.call rfl ca47 rfl (fun w' _ => pair_c w' c d) RW.jn)) ?_
                  refine DRq.cons rfl (RW.pickB rfl rfl (decide_eq_true h3) rfl RW.jn) ?_
                  refine DRq.cons rfl (RW.assign rfl rfl RW.jn) ?_
                  refine DRq.nil ?_
                  -- mq: joinend
                  exact EX.jn (Sub.cons (congrArg (fun x => some (Value.bool x)) (by simp [nextPairs, pairs, h1, h3])) (by repeat (first | exact Sub.nil | refine Sub.cons (by rfl) ?_))) (fun _ h => h)
                · skip
                  refine CW.drawq mixed (by kernel_rfl) (fun _ hw => hw.drew) ?_
                  refine DRq.cons rfl (RW.fieldB fl34x2 rfl rfl RW.jn) ?_
                  refine DRq.cons rfl (RW.loadB1 sc3 rfl rfl (by first | exact Has.head | exact Has.tail Has.head | exact Has.tail (Has.tail Has.head) | exact Has.tail (Has.tail (Has.tail Has.head)) | exact Has.tail (Has.tail (Has.tail (Has.tail Has.head))) | exact Has.tail (Has.tail (Has.tail (Has.tail (Has.tail Has.head)))) | exact Has.tail (Has.tail (Has.tail (Has.tail (Has.tail (Has.tail Has.head)))))) rfl RW.jn) ?_
                  refine DRq.cons rfl (RW.eqlI rfl rfl rfl RW.jn) ?_
                  refine DRq.cons rfl (RW.move rfl rfl RW.jn) ?_
                  refine DRq.cons rfl (RW.guardT rfl rfl (decide_eq_true h1) (RW.move rfl rfl RW.jn)) ?_
                  refine DRq.cons rfl (RW.guardT rfl rfl (decide_eq_true h1) (RW.add rfl rfl rfl (wrap64 (by omega) (by omega)) RW.jn)) ?_
                  refine DRq.cons rfl (RW.guardT rfl rfl (decide_eq_true h1) (RW.move rfl rfl RW.jn)) ?_
                  refine DRq.cons rfl (RW.guardT rfl rfl (decide_eq_true h1) (RW.lenSl Try.underlying22 rfl rfl RW.jn)) ?_
                  refine DRq.cons rfl (RW.guardT rfl rfl (decide_eq_true h1) (RW.lss rfl rfl rfl RW.jn)) ?_
                  refine DRq.cons rfl (RW.pickB rfl rfl (decide_eq_true h1) rfl RW.jn) ?_
                  refine DRq.cons rfl (RW.move rfl rfl RW.jn) ?_
                  refine DRq.cons rfl (RW.guardT rfl rfl h2 (RW.move rfl rfl RW.jn)) ?_
                  refine DRq.cons rfl (RW.guardT rfl rfl h2 (RW.move rfl rfl RW.jn)) ?_
                  refine DRq.cons rfl (RW.guardT rfl rfl h2 (RW.add rfl rfl rfl (wrap64 (by omega) (by omega)) RW.jn)) ?_
                  refine DRq.cons rfl (RW.guardT rfl rfl h2 (RW.ixAddr (q := pre.length + 1) sl22 rfl rfl rfl (by first | rfl | assumption) (by omega) (by omega) RW.jn)) ?_
                  refine DRq.cons rfl (RW.guardT rfl rfl h2 (RW.fieldP fl34x2 rfl rfl RW.jn)) ?_
                  refine DRq.cons rfl (RW.guardT rfl rfl h2 (RW.load1 sc3 rfl rfl (fun w' hw' => hw'.own_at (E := ECell) (by first | exact Has.head | exact Has.tail Has.head | exact Has.tail (Has.tail Has.head) | exact Has.tail (Has.tail (Has.tail Has.head)) | exact Has.tail (Has.tail (Has.tail (Has.tail Has.head))) | exact Has.tail (Has.tail (Has.tail (Has.tail (Has.tail Has.head)))) | exact Has.tail (Has.tail (Has.tail (Has.tail (Has.tail (Has.tail Has.head)))))) hk1 2 _ rfl) RW.jn)) ?_
                  refine DRq.cons rfl (RW.guardT rfl rfl h2 (RW.eqlI rfl rfl rfl RW.jn)) ?_
                  refine DRq.cons rfl (RW.pickB rfl rfl h2 rfl RW.jn) ?_
                  refine DRq.cons rfl (RW.move rfl rfl RW.jn) ?_
                  refine DRq.cons rfl (RW.guardF rfl rfl rfl (decide_eq_false h3) RW.jn) ?_
                  refine DRq.cons rfl (RW.guardF rfl rfl rfl (decide_eq_false h3) RW.jn) ?_
                  refine DRq.cons rfl (RW.guardF rfl rfl rfl (decide_eq_false h3) RW.jn) ?_
                  refine DRq.cons rfl (RW.guardF rfl rfl rfl (decide_eq_false h3) RW.jn) ?_
                  refine DRq.cons rfl (RW.guardF rfl rfl rfl (decide_eq_false h3) RW.jn) ?_
                  refine DRq.cons rfl (RW.guardF rfl rfl rfl (decide_eq_false h3) RW.jn) ?_
                  refine DRq.cons rfl (RW.guardF rfl rfl rfl (decide_eq_false h3) RW.jn) ?_
                  refine DRq.cons rfl (RW.pickC rfl rfl (decide_eq_false h3) rfl RW.jn) ?_
                  refine DRq.cons rfl (RW.assign rfl rfl RW.jn) ?_
                  refine DRq.nil ?_
                  -- mq: joinend
                  exact EX.jn (Sub.cons (congrArg (fun x => some (Value.bool x)) (by simp [nextPairs, pairs, h3])) (by repeat (first | exact Sub.nil | refine Sub.cons (by rfl) ?_))) (fun _ h => h)
            · skip
              refine CW.drawq mixed (by kernel_rfl) (fun _ hw => hw.drew) ?_
              refine DRq.cons rfl (RW.fieldB fl34x2 rfl rfl RW.jn) ?_
              refine DRq.cons rfl (RW.loadB1 sc3 rfl rfl (by first | exact Has.head | exact Has.tail Has.head | exact Has.tail (Has.tail Has.head) | exact Has.tail (Has.tail (Has.tail Has.head)) | exact Has.tail (Has.tail (Has.tail (Has.tail Has.head))) | exact Has.tail (Has.tail (Has.tail (Has.tail (Has.tail Has.head)))) | exact Has.tail (Has.tail (Has.tail (Has.tail (Has.tail (Has.tail Has.head)))))) rfl RW.jn) ?_
              refine DRq.cons rfl (RW.eqlI rfl rfl rfl RW.jn) ?_
              refine DRq.cons rfl (RW.move rfl rfl RW.jn) ?_
              refine DRq.cons rfl (RW.guardF rfl rfl rfl (decide_eq_false h1) RW.jn) ?_
              refine DRq.cons rfl (RW.guardF rfl rfl rfl (decide_eq_false h1) RW.jn) ?_
              refine DRq.cons rfl (RW.guardF rfl rfl rfl (decide_eq_false h1) RW.jn) ?_
              refine DRq.cons rfl (RW.guardF rfl rfl rfl (decide_eq_false h1) RW.jn) ?_
              refine DRq.cons rfl (RW.guardF rfl rfl rfl (decide_eq_false h1) RW.jn) ?_
              refine DRq.cons rfl (RW.pickC rfl rfl (decide_eq_false h1) rfl RW.jn) ?_
              refine DRq.cons rfl (RW.move rfl rfl RW.jn) ?_
              refine DRq.cons rfl (RW.guardF rfl rfl rfl rfl RW.jn) ?_
              refine DRq.cons rfl (RW.guardF rfl rfl rfl rfl RW.jn) ?_
              refine DRq.cons rfl (RW.guardF rfl rfl rfl rfl RW.jn) ?_
              refine DRq.cons rfl (RW.guardF rfl rfl rfl rfl RW.jn) ?_
              refine DRq.cons rfl (RW.guardF rfl rfl rfl rfl RW.jn) ?_
              refine DRq.cons rfl (RW.guardF rfl rfl rfl rfl RW.jn) ?_
              refine DRq.cons rfl (RW.guardF rfl rfl rfl rfl RW.jn) ?_
              refine DRq.cons rfl (RW.pickC rfl rfl rfl rfl RW.jn) ?_
              refine DRq.cons rfl (RW.move rfl rfl RW.jn) ?_
              refine DRq.cons rfl (RW.guardF rfl rfl rfl rfl RW.jn) ?_
              refine DRq.cons rfl (RW.guardF rfl rfl rfl rfl RW.jn) ?_
              refine DRq.cons rfl (RW.guardF rfl rfl rfl rfl RW.jn) ?_
              refine DRq.cons rfl (RW.guardF rfl rfl rfl rfl RW.jn) ?_
              refine DRq.cons rfl (RW.guardF rfl rfl rfl rfl RW.jn) ?_
              refine DRq.cons rfl (RW.guardF rfl rfl rfl rfl RW.jn) ?_
              refine DRq.cons rfl (RW.guardF rfl rfl rfl rfl RW.jn) ?_
              refine DRq.cons rfl (RW.pickC rfl rfl rfl rfl RW.jn) ?_
              refine DRq.cons rfl (RW.assign rfl rfl RW.jn) ?_
              refine DRq.nil ?_
              -- mq: joinend
              exact EX.jn (Sub.cons (congrArg (fun x => some (Value.bool x)) (by cases rest <;> simp [nextPairs, pairs, h1])) (by repeat (first | exact Sub.nil | refine Sub.cons (by rfl) ?_))) (fun _ h => h)
          · skip
            refine EX.seq ?_
            -- mq: cond
            first | refine CW.condD rfl (fun hP => ?_) (fun hP => ?_) | refine CW.cond rfl (fun hP => ?_) (fun hP => ?_)
            · skip
              cases rest with
              | nil => cases hP
              | cons d rest =>
                refine CW.region ?_
                refine RW.move rfl rfl ?_
                refine RW.add rfl rfl rfl (wrap64 (by omega) (by omega)) ?_
                refine RW.assign rfl rfl ?_
                refine RW.nil (EX.bkN (EX.bkN (EX.seq (CW.region ?_))))
                refine RW.move rfl rfl ?_
                refine RW.add rfl rfl rfl (wrap64 (by omega) (by omega)) ?_
                refine RW.assign rfl rfl ?_
                refine RW.nil ?_
                -- mq: loopend
                have hmc : mendL (c :: d :: rest) = c :: d :: mendL rest := by
                  simp only [mendL, if_neg hh0]
                  rw [if_pos (show pairs c d = true from hP)]
                refine EX.lpN (pre ++ [c, d], rest) ⟨by rw [hm, hmc]; simp, by simp at hl ⊢; omega⟩ (by simp; omega) (Sub.cons (by rfl) (Sub.cons (by simp [look]; omega) Sub.nil)) (fun w' hw' => ?_)
                have := hw'.rem Rem.head
                simpa using this
            · skip
              refine CW.region ?_
              refine RW.move rfl rfl ?_
              refine RW.move rfl rfl ?_
              refine RW.fieldB fl34x3 rfl rfl ?_
              refine RW.loadBA ag32 rfl rfl (by first | exact Has.head | exact Has.tail Has.head | exact Has.tail (Has.tail Has.head) | exact Has.tail (Has.tail (Has.tail Has.head)) | exact Has.tail (Has.tail (Has.tail (Has.tail Has.head))) | exact Has.tail (Has.tail (Has.tail (Has.tail (Has.tail Has.head)))) | exact Has.tail (Has.tail (Has.tail (Has.tail (Has.tail (Has.tail Has.head)))))) rfl rfl ?_
              refine RW.call rfl ca48 rfl (fun w' _ => empty_c w' c.at_) ?_
              refine RW.ixAddr sl22 rfl rfl rfl (by first | rfl | assumption) (by rfl) (by omega) ?_
              refine RW.storeOwnA (o := pre.length * 8) ag34 rfl rfl (by first | exact Upd.head | exact Upd.tail Upd.head | exact Upd.tail (Upd.tail Upd.head) | exact Upd.tail (Upd.tail (Upd.tail Upd.head)) | exact Upd.tail (Upd.tail (Upd.tail (Upd.tail Upd.head))) | exact Upd.tail (Upd.tail (Upd.tail (Upd.tail (Upd.tail Upd.head)))) | exact Upd.tail (Upd.tail (Upd.tail (Upd.tail (Upd.tail (Upd.tail Upd.head)))))) (by simp [Addr.add_lit]) rfl (ECell.ones (emptyC c.at_)) (by rw [ECell.all_length]; show pre.length * 8 + 8 ≤ _ * 8; simp; omega) ?_
              refine RW.nil (EX.bkN (EX.bkN (EX.seq (CW.region ?_))))
              refine RW.move rfl rfl ?_
              refine RW.add rfl rfl rfl (wrap64 (by omega) (by omega)) ?_
              refine RW.assign rfl rfl ?_
              refine RW.nil ?_
              -- mq: loopend
              have hmc : mendL (c :: rest) = emptyC c.at_ :: mendL rest := by
                cases rest with
                | nil =>
                  have h3 : c.half ≠ 3 := fun h => by
                    have := hB.2
                    rw [Bool.and_eq_false_iff] at this
                    rcases this with h' | h'
                    · exact of_decide_eq_false h' h
                    · exact of_decide_eq_false h' (hlast.2 rfl)
                  simp [mendL, hh0, h3]
                | cons d l =>
                  simp only [nextPairs] at hP
                  simp [mendL, hh0, hP]
              refine EX.lpN (pre ++ [emptyC c.at_], rest) ⟨by rw [hm, hmc]; simp, by simp at hl ⊢; omega⟩ (by simp) (Sub.cons (by rfl) (Sub.cons (by simp [look]) Sub.nil)) (fun w' hw' => ?_)
              have := hw'.rem Rem.head
              have hs := ECell.splice_all (L := pre ++ c :: rest) (i := pre.length) (emptyC c.at_) (by simp)
              have hset : (pre ++ c :: rest).set pre.length (emptyC c.at_) = (pre ++ [emptyC c.at_]) ++ rest := by simp
              rw [hset] at hs
              rw [← hs]
              exact this
    · skip
      refine CW.exit (EX.seqE (EX.lpE (EX.bkE ?_)))
      refine EX.fin0N Try.results46 (fun wz hw => ?_)
      -- mq: done
      have hr : rest = [] := List.eq_nil_of_length_eq_zero (by omega)
      subst hr
      have hpre : mendL row = pre ++ [] := hm
      exact ⟨rfl, hw.ext, by rw [hpre]; exact hw.has Has.head⟩
end Go.Proofs.Ytmdmdlfdijdhgaa.Mq
