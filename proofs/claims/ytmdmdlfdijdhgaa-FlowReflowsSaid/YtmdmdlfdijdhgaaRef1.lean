/- walks of the reference: Mend, Flow, Line, Same of rows -/
import Derived.Test.YtmdmdlfdijdhgaaFlow2
namespace Go.Proofs.Ytmdmdlfdijdhgaa.Mq
open Go Go.RowKit Go.Proofs

theorem pairs_eq (c d : CellV) : pairs c d = (decide (c.half = 1) && (decide (d.half = 2) && (decide (d.r = c.r) && (decide (d.more = c.more) && decide (d.at_ = c.at_))))) := by
  rw [Bool.eq_iff_iff]
  simp only [pairs, pairB, Bool.and_eq_true, decide_eq_true_eq]
  constructor
  · rintro ⟨⟨h1, h2⟩, _, h4⟩
    have h4' := h4
    cases c; cases d
    simp at h4
    simp at h1 h2
    simp [h4, h1, h2]
  · rintro ⟨h1, h2, h3, h4, h5⟩
    refine ⟨⟨h1, h2⟩, h1, ?_⟩
    cases c; cases d
    simp at h1 h2 h3 h4 h5
    simp [h1, h3, h4, h5]
def stays (x : CellV) (rest : List CellV) : Bool := nextPairs x rest || (decide (x.half = 0) || (decide (x.half = 3) && decide (rest = [])))
def stepC (x : CellV) (rest : List CellV) : CellV := if stays x rest then x else emptyC x.at_
def mendState (b : Bool) (rest : List CellV) : List CellV := if b then (match rest with | [] => [] | c :: l => c :: mendL l) else mendL rest
theorem mend_step (x : CellV) (rest : List CellV) : mendL (x :: rest) = stepC x rest :: mendState (nextPairs x rest) rest := by
  cases rest with
  | nil =>
    by_cases h0 : x.half = 0
    · simp [mendL, stepC, stays, nextPairs, mendState, h0]
    · by_cases h3 : x.half = 3 <;> simp [mendL, stepC, stays, nextPairs, mendState, h0, h3]
  | cons d l =>
    by_cases h0 : x.half = 0
    · have hp : pairs x d = false := by simp [pairs, h0]
      simp [mendL, stepC, stays, nextPairs, mendState, h0, hp]
    · cases hp : pairs x d <;> simp [mendL, stepC, stays, nextPairs, mendState, h0, hp]
theorem refMend_c (w : World) (F : Nat → Prop) (A : Option Addr) (n c : Nat) (row : List CellV) (hr : Rd ECell w F A n c row) (hn : n ≤ 1000000) :
    Calls Try.prog 15 [.slice A n c].toArray w (RetSl ECell w (mendL row)) := by
  have hl := hr.len
  refine calls (n := 91) Try.func15 rfl Try.ntmps15 rfl ?_
  refine CW.sub (H' := SH w [] []) ?_ (Sub.refl _) (fun x hx => SH.start' _ _ hx)
  refine CW.ownNil 34 8 ?_
  refine CW.seq (CW.region ?_)
  refine RW.assign rfl rfl ?_
  refine RW.nil (EX.seq (CW.seq (CW.region ?_)))
  refine RW.assign rfl rfl ?_
  refine RW.nil (EX.seq (CW.seq (CW.region ?_)))
  refine RW.assign rfl rfl ?_
  refine RW.nil (EX.seq (CW.seq (CW.seq (CW.region ?_))))
  refine RW.assign rfl rfl ?_
  refine RW.nil (EX.seq (CW.block ?_))
  -- mq: loop
  refine CW.loop (ι := Value × List CellV × Bool × List CellV) (fun i => [(0, .slice A n c), (3, i.1), (4, .bool i.2.2.1), (5, .int .i64 (i.2.1.length : Int))]) (fun i => SH w [] [own 34 8 i.1 i.2.1.length (ECell.all i.2.1)]) (fun i => i.2.1.length + i.2.2.2.length = n ∧ i.2.2.2 = row.drop i.2.1.length ∧ mendL row = i.2.1 ++ mendState i.2.2.1 i.2.2.2 ∧ (i.2.2.1 = true → i.2.2.2 ≠ []) ∧ ∀ g, i.1.ownBlock = some g → w.heap.size ≤ g) (fun i => i.2.2.2.length) ?_ ?_
  · exact fun w hw => ⟨(.slice none 0 0, [], false, row), ⟨by simpa using hl, by simp, rfl, by simp, by simp [Value.ownBlock]⟩, (by repeat (first | exact Sub.nil | refine Sub.cons (by rfl) ?_)), hw⟩
  · rintro ⟨v, out, pd, rest⟩ ⟨hlen, hdrop, hm, hpd, hv⟩
    dsimp only at hlen hdrop hm hpd hv ⊢
    refine CW.seq (CW.seq (CW.region ?_))
    refine RW.move rfl rfl ?_
    refine RW.move rfl rfl ?_
    refine RW.lenSl Try.underlying22 rfl rfl ?_
    refine RW.lss rfl rfl rfl ?_
    refine RW.nil (EX.seq ?_)
    -- mq: cond
    first | refine CW.condD rfl (fun hlt => ?_) (fun hlt => ?_) | refine CW.cond rfl (fun hlt => ?_) (fun hlt => ?_)
    · skip
      cases rest with
      | nil => simp at hlen; omega
      | cons x rest =>
      have hx : row[out.length]? = some x := by
        have := congrArg (fun l => l[0]?) hdrop
        simpa using this.symm
      have hrest : rest = row.drop (out.length + 1) := by
        have := congrArg List.tail hdrop
        simpa using this
      have hl1 : out.length + 1 + rest.length = n := by simp at hlen; omega
      obtain ⟨ad, hA, _, hcell⟩ := hr.at_ hx
      refine CW.skip (EX.seq (CW.seq (CW.block (CW.seq (CW.region ?_)))))
      refine RW.move rfl rfl ?_
      refine RW.move rfl rfl ?_
      refine RW.ixAddr sl22 rfl rfl rfl (by first | rfl | assumption) (by rfl) (by omega) ?_
      refine RW.loadA ag34 rfl rfl (rfl) (fun w' hw' j u hj => hw'.base_cell (hcell j u hj) (by simp)) ?_
      refine RW.allocA ag34 rfl (fun g6 hg6 hf6 => ?_)
      refine RW.storeA ag34 rfl rfl (by first | exact Upd.head | exact Upd.tail Upd.head | exact Upd.tail (Upd.tail Upd.head) | exact Upd.tail (Upd.tail (Upd.tail Upd.head)) | exact Upd.tail (Upd.tail (Upd.tail (Upd.tail Upd.head))) | exact Upd.tail (Upd.tail (Upd.tail (Upd.tail (Upd.tail Upd.head)))) | exact Upd.tail (Upd.tail (Upd.tail (Upd.tail (Upd.tail (Upd.tail Upd.head)))))) (by first | rfl | exact Enc.len _ _) (by repeat (first | exact Ones.nil | exact Enc.ones _ _ | refine Ones.cons rfl ?_)) (by first | exact Nat.le_of_ble_eq_true rfl | (simp only [Enc.len]; decide)) ?_
      refine RW.nil (EX.seq (CW.seq (CW.seq (CW.region ?_))))
      refine RW.move rfl rfl ?_
      refine RW.nil (EX.seq ?_)
      -- mq: cond
      first | refine CW.condD rfl (fun hp => ?_) (fun hp => ?_) | refine CW.cond rfl (fun hp => ?_) (fun hp => ?_)
      · skip
        refine CW.seq (CW.region ?_)
        refine RW.move rfl rfl ?_
        refine RW.loadBA ag34 rfl rfl (by first | exact Has.head | exact Has.tail Has.head | exact Has.tail (Has.tail Has.head) | exact Has.tail (Has.tail (Has.tail Has.head)) | exact Has.tail (Has.tail (Has.tail (Has.tail Has.head))) | exact Has.tail (Has.tail (Has.tail (Has.tail (Has.tail Has.head)))) | exact Has.tail (Has.tail (Has.tail (Has.tail (Has.tail (Has.tail Has.head)))))) rfl rfl ?_
        refine RW.buildSlc sl22 rfl rfl rfl rfl (fun g22 hg22 hf22 => ?_)
        refine RW.append1 sl22 rfl rfl rfl (by first | exact Rem.head | exact Rem.tail Rem.head | exact Rem.tail (Rem.tail Rem.head) | exact Rem.tail (Rem.tail (Rem.tail Rem.head)) | exact Rem.tail (Rem.tail (Rem.tail (Rem.tail Rem.head))) | exact Rem.tail (Rem.tail (Rem.tail (Rem.tail (Rem.tail Rem.head)))) | exact Rem.tail (Rem.tail (Rem.tail (Rem.tail (Rem.tail (Rem.tail Rem.head)))))) (fun _ => by first | exact Upd.head | exact Upd.tail Upd.head | exact Upd.tail (Upd.tail Upd.head) | exact Upd.tail (Upd.tail (Upd.tail Upd.head)) | exact Upd.tail (Upd.tail (Upd.tail (Upd.tail Upd.head))) | exact Upd.tail (Upd.tail (Upd.tail (Upd.tail (Upd.tail Upd.head)))) | exact Upd.tail (Upd.tail (Upd.tail (Upd.tail (Upd.tail (Upd.tail Upd.head)))))) rfl (by repeat (first | exact Ones.nil | exact Enc.ones _ _ | refine Ones.cons rfl ?_)) (by simp only [maxLen]; omega) (by omega) (fun v23 hv23 => ?_)
        refine RW.assign rfl rfl ?_
        refine RW.nil (EX.seq (CW.seq (CW.region ?_)))
        refine RW.assign rfl rfl ?_
        refine RW.nil (EX.seq (CW.exit (EX.seqE (EX.bkE (EX.seq (CW.region ?_))))))
        refine RW.move rfl rfl ?_
        refine RW.add rfl rfl rfl (wrap64 (by omega) (by omega)) ?_
        refine RW.assign rfl rfl ?_
        refine RW.nil ?_
        -- mq: loopend
        subst hp
        refine EX.lpN (v23, out ++ [x], false, rest) ⟨by simp; omega, by rw [hrest]; simp, by rw [hm]; simp [mendState], by simp, fun g hg => by
          rcases hv23 g hg with h | h
          · exact hv g h
          · exact h.1⟩ (by simp) (Sub.cons (by rfl) (Sub.cons (by rfl) (Sub.cons (by rfl) (Sub.cons (by simp [look]) Sub.nil)))) (fun w' hw' => ?_)
        rw [List.length_append, Enc.all_snoc]
        exact hw'.rem Rem.head
      · skip
        refine CW.skip (EX.seq (CW.seq ?_))
        -- mq: seq
        subst hp
        refine CW.join ([(4, .bool (nextPairs x rest)), (0, .slice A n c), (3, v), (5, .int .i64 (out.length : Int)), (6, .pointer (some ⟨g6, 0, none⟩))]) (SH w [] [blk g6 x.enc 34, own 34 8 v out.length (ECell.all out)]) ?_ ?_
        · skip
          refine CW.seq (CW.region ?_)
          refine RW.fieldB fl34x2 rfl rfl ?_
          refine RW.loadB1 sc3 rfl rfl (by first | exact Has.head | exact Has.tail Has.head | exact Has.tail (Has.tail Has.head) | exact Has.tail (Has.tail (Has.tail Has.head)) | exact Has.tail (Has.tail (Has.tail (Has.tail Has.head))) | exact Has.tail (Has.tail (Has.tail (Has.tail (Has.tail Has.head)))) | exact Has.tail (Has.tail (Has.tail (Has.tail (Has.tail (Has.tail Has.head)))))) rfl ?_
          refine RW.eqlI rfl rfl rfl ?_
          refine RW.move rfl rfl ?_
          -- mq: guard slot 27
          refine RW.casesB 27 rfl (fun h1 => ?_) (fun h1 => ?_)
          · skip
            have h1p := of_decide_eq_true h1
            refine RW.guardT rfl rfl h1 ?_
            refine RW.move rfl rfl ?_
            refine RW.guardT rfl rfl h1 ?_
            refine RW.move rfl rfl ?_
            refine RW.guardT rfl rfl h1 ?_
            refine RW.lenSl Try.underlying22 rfl rfl ?_
            refine RW.guardT rfl rfl h1 ?_
            refine RW.sub_ rfl rfl rfl (wrap64 (by omega) (by omega)) ?_
            refine RW.guardT rfl rfl h1 ?_
            refine RW.lss rfl rfl rfl ?_
            refine RW.pickB rfl rfl h1 rfl ?_
            refine RW.nil (EX.seq ?_)
            -- mq: cond
            first | refine CW.condD rfl (fun h2 => ?_) (fun h2 => ?_) | refine CW.cond rfl (fun h2 => ?_) (fun h2 => ?_)
            · skip
              cases rest with
              | nil => simp at hl1; omega
              | cons y rest =>
              have hy : row[out.length + 1]? = some y := by
                have := congrArg (fun l => l[0]?) hrest
                simpa using this.symm
              obtain ⟨ad2, hA2, _, hcell2⟩ := hr.at_ hy
              refine CW.seq (CW.region ?_)
              refine RW.move rfl rfl ?_
              refine RW.move rfl rfl ?_
              refine RW.add rfl rfl rfl (wrap64 (by omega) (by omega)) ?_
              refine RW.ixAddr (q := out.length + 1) sl22 rfl rfl rfl (by first | rfl | assumption) (by omega) (by omega) ?_
              refine RW.loadA ag34 rfl rfl (rfl) (fun w' hw' j u hj => hw'.base_cell (hcell2 j u hj) (by simp)) ?_
              refine RW.allocA ag34 rfl (fun g7 hg7 hf7 => ?_)
              refine RW.storeA ag34 rfl rfl (by first | exact Upd.head | exact Upd.tail Upd.head | exact Upd.tail (Upd.tail Upd.head) | exact Upd.tail (Upd.tail (Upd.tail Upd.head)) | exact Upd.tail (Upd.tail (Upd.tail (Upd.tail Upd.head))) | exact Upd.tail (Upd.tail (Upd.tail (Upd.tail (Upd.tail Upd.head)))) | exact Upd.tail (Upd.tail (Upd.tail (Upd.tail (Upd.tail (Upd.tail Upd.head)))))) (by first | rfl | exact Enc.len _ _) (by repeat (first | exact Ones.nil | exact Enc.ones _ _ | refine Ones.cons rfl ?_)) (by first | exact Nat.le_of_ble_eq_true rfl | (simp only [Enc.len]; decide)) ?_
              refine RW.nil (EX.seq (CW.region ?_))
              refine RW.fieldB fl34x2 rfl rfl ?_
              refine RW.loadB1 sc3 rfl rfl (by first | exact Has.head | exact Has.tail Has.head | exact Has.tail (Has.tail Has.head) | exact Has.tail (Has.tail (Has.tail Has.head)) | exact Has.tail (Has.tail (Has.tail (Has.tail Has.head))) | exact Has.tail (Has.tail (Has.tail (Has.tail (Has.tail Has.head)))) | exact Has.tail (Has.tail (Has.tail (Has.tail (Has.tail (Has.tail Has.head)))))) rfl ?_
              refine RW.eqlI rfl rfl rfl ?_
              refine RW.move rfl rfl ?_
              -- mq: guard slot 42
              refine RW.casesB 42 rfl (fun h3 => ?_) (fun h3 => ?_)
              · skip
                have h3p := of_decide_eq_true h3
                refine RW.guardT rfl rfl h3 ?_
                refine RW.fieldB fl34x0 rfl rfl ?_
                refine RW.guardT rfl rfl h3 ?_
                refine RW.loadB1 sc21 rfl rfl (by first | exact Has.head | exact Has.tail Has.head | exact Has.tail (Has.tail Has.head) | exact Has.tail (Has.tail (Has.tail Has.head)) | exact Has.tail (Has.tail (Has.tail (Has.tail Has.head))) | exact Has.tail (Has.tail (Has.tail (Has.tail (Has.tail Has.head)))) | exact Has.tail (Has.tail (Has.tail (Has.tail (Has.tail (Has.tail Has.head)))))) rfl ?_
                refine RW.guardT rfl rfl h3 ?_
                refine RW.fieldB fl34x0 rfl rfl ?_
                refine RW.guardT rfl rfl h3 ?_
                refine RW.loadB1 sc21 rfl rfl (by first | exact Has.head | exact Has.tail Has.head | exact Has.tail (Has.tail Has.head) | exact Has.tail (Has.tail (Has.tail Has.head)) | exact Has.tail (Has.tail (Has.tail (Has.tail Has.head))) | exact Has.tail (Has.tail (Has.tail (Has.tail (Has.tail Has.head)))) | exact Has.tail (Has.tail (Has.tail (Has.tail (Has.tail (Has.tail Has.head)))))) rfl ?_
                refine RW.guardT rfl rfl h3 ?_
                refine RW.eqlI rfl rfl rfl ?_
                refine RW.pickB rfl rfl h3 rfl ?_
                refine RW.move rfl rfl ?_
                -- mq: guard slot 49
                refine RW.casesB 49 rfl (fun h4 => ?_) (fun h4 => ?_)
                · skip
                  have h4p := of_decide_eq_true h4
                  refine RW.guardT rfl rfl h4 ?_
                  refine RW.fieldB fl34x1 rfl rfl ?_
                  refine RW.guardT rfl rfl h4 ?_
                  refine RW.loadB1 sc9 rfl rfl (by first | exact Has.head | exact Has.tail Has.head | exact Has.tail (Has.tail Has.head) | exact Has.tail (Has.tail (Has.tail Has.head)) | exact Has.tail (Has.tail (Has.tail (Has.tail Has.head))) | exact Has.tail (Has.tail (Has.tail (Has.tail (Has.tail Has.head)))) | exact Has.tail (Has.tail (Has.tail (Has.tail (Has.tail (Has.tail Has.head)))))) rfl ?_
                  refine RW.guardT rfl rfl h4 ?_
                  refine RW.fieldB fl34x1 rfl rfl ?_
                  refine RW.guardT rfl rfl h4 ?_
                  refine RW.loadB1 sc9 rfl rfl (by first | exact Has.head | exact Has.tail Has.head | exact Has.tail (Has.tail Has.head) | exact Has.tail (Has.tail (Has.tail Has.head)) | exact Has.tail (Has.tail (Has.tail (Has.tail Has.head))) | exact Has.tail (Has.tail (Has.tail (Has.tail (Has.tail Has.head)))) | exact Has.tail (Has.tail (Has.tail (Has.tail (Has.tail (Has.tail Has.head)))))) rfl ?_
                  refine RW.guardT rfl rfl h4 ?_
                  refine RW.eqlS rfl rfl rfl ?_
                  refine RW.pickB rfl rfl h4 rfl ?_
                  refine RW.move rfl rfl ?_
                  -- mq: guard slot 56
                  refine RW.casesB 56 rfl (fun h5 => ?_) (fun h5 => ?_)
                  · skip
                    have h5p := of_decide_eq_true h5
                    refine RW.guardT rfl rfl h5 ?_
                    refine RW.fieldB fl34x3 rfl rfl ?_
                    refine RW.guardT rfl rfl h5 ?_
                    refine RW.loadBA ag32 rfl rfl (by first | exact Has.head | exact Has.tail Has.head | exact Has.tail (Has.tail Has.head) | exact Has.tail (Has.tail (Has.tail Has.head)) | exact Has.tail (Has.tail (Has.tail (Has.tail Has.head))) | exact Has.tail (Has.tail (Has.tail (Has.tail (Has.tail Has.head)))) | exact Has.tail (Has.tail (Has.tail (Has.tail (Has.tail (Has.tail Has.head)))))) rfl rfl ?_
                    refine RW.guardT rfl rfl h5 ?_
                    refine RW.fieldB fl34x3 rfl rfl ?_
                    refine RW.guardT rfl rfl h5 ?_
                    refine RW.loadBA ag32 rfl rfl (by first | exact Has.head | exact Has.tail Has.head | exact Has.tail (Has.tail Has.head) | exact Has.tail (Has.tail (Has.tail Has.head)) | exact Has.tail (Has.tail (Has.tail (Has.tail Has.head))) | exact Has.tail (Has.tail (Has.tail (Has.tail (Has.tail Has.head)))) | exact Has.tail (Has.tail (Has.tail (Has.tail (Has.tail (Has.tail Has.head)))))) rfl rfl ?_
                    refine RW.guardT rfl rfl h5 ?_
                    refine RW.eqlSt eq32 rfl rfl rfl (by kernel_rfl) (eqv_attr y.at_ x.at_) ?_
                    refine RW.pickB rfl rfl h5 rfl ?_
                    refine RW.assign rfl rfl ?_
                    refine RW.nil ?_
                    -- mq: joinend
                    exact EX.jn (Sub.cons (congrArg (fun b => some (Value.bool b)) (by rw [nextPairs, pairs_eq]; simp [h1p, h3p, h4p, h5p])) (by repeat (first | exact Sub.nil | refine Sub.cons (by rfl) ?_))) (fun _ h => h.rem Rem.head)
                  · skip
                    have h5p := of_decide_eq_false h5
                    refine RW.guardF rfl rfl rfl h5 ?_
                    refine RW.guardF rfl rfl rfl h5 ?_
                    refine RW.guardF rfl rfl rfl h5 ?_
                    refine RW.guardF rfl rfl rfl h5 ?_
                    refine RW.guardF rfl rfl rfl h5 ?_
                    refine RW.pickC rfl rfl h5 rfl ?_
                    refine RW.assign rfl rfl ?_
                    refine RW.nil ?_
                    -- mq: joinend
                    exact EX.jn (Sub.cons (congrArg (fun b => some (Value.bool b)) (by rw [nextPairs, pairs_eq]; simp [h1p, h3p, h4p, h5p])) (by repeat (first | exact Sub.nil | refine Sub.cons (by rfl) ?_))) (fun _ h => h.rem Rem.head)
                · skip
                  have h4p := of_decide_eq_false h4
                  refine RW.guardF rfl rfl rfl h4 ?_
                  refine RW.guardF rfl rfl rfl h4 ?_
                  refine RW.guardF rfl rfl rfl h4 ?_
                  refine RW.guardF rfl rfl rfl h4 ?_
                  refine RW.guardF rfl rfl rfl h4 ?_
                  refine RW.pickC rfl rfl h4 rfl ?_
                  refine RW.move rfl rfl ?_
                  refine RW.guardF rfl rfl rfl rfl ?_
                  refine RW.guardF rfl rfl rfl rfl ?_
                  refine RW.guardF rfl rfl rfl rfl ?_
                  refine RW.guardF rfl rfl rfl rfl ?_
                  refine RW.guardF rfl rfl rfl rfl ?_
                  refine RW.pickC rfl rfl rfl rfl ?_
                  refine RW.assign rfl rfl ?_
                  refine RW.nil ?_
                  -- mq: joinend
                  exact EX.jn (Sub.cons (congrArg (fun b => some (Value.bool b)) (by rw [nextPairs, pairs_eq]; simp [h1p, h3p, h4p])) (by repeat (first | exact Sub.nil | refine Sub.cons (by rfl) ?_))) (fun _ h => h.rem Rem.head)
              · skip
                have h3p := of_decide_eq_false h3
                refine RW.guardF rfl rfl rfl h3 ?_
                refine RW.guardF rfl rfl rfl h3 ?_
                refine RW.guardF rfl rfl rfl h3 ?_
                refine RW.guardF rfl rfl rfl h3 ?_
                refine RW.guardF rfl rfl rfl h3 ?_
                refine RW.pickC rfl rfl h3 rfl ?_
                refine RW.move rfl rfl ?_
                refine RW.guardF rfl rfl rfl rfl ?_
                refine RW.guardF rfl rfl rfl rfl ?_
                refine RW.guardF rfl rfl rfl rfl ?_
                refine RW.guardF rfl rfl rfl rfl ?_
                refine RW.guardF rfl rfl rfl rfl ?_
                refine RW.pickC rfl rfl rfl rfl ?_
                refine RW.move rfl rfl ?_
                refine RW.guardF rfl rfl rfl rfl ?_
                refine RW.guardF rfl rfl rfl rfl ?_
                refine RW.guardF rfl rfl rfl rfl ?_
                refine RW.guardF rfl rfl rfl rfl ?_
                refine RW.guardF rfl rfl rfl rfl ?_
                refine RW.pickC rfl rfl rfl rfl ?_
                refine RW.assign rfl rfl ?_
                refine RW.nil ?_
                -- mq: joinend
                exact EX.jn (Sub.cons (congrArg (fun b => some (Value.bool b)) (by rw [nextPairs, pairs_eq]; simp [h3p])) (by repeat (first | exact Sub.nil | refine Sub.cons (by rfl) ?_))) (fun _ h => h.rem Rem.head)
            · skip
              refine CW.skip ?_
              -- mq: joinend
              have hr0 : rest = [] := List.eq_nil_of_length_eq_zero (by omega)
              subst hr0
              exact EX.jn (by repeat (first | exact Sub.nil | refine Sub.cons (by rfl) ?_)) (fun _ h => h)
          · skip
            have h1p := of_decide_eq_false h1
            refine RW.guardF rfl rfl rfl h1 ?_
            refine RW.guardF rfl rfl rfl h1 ?_
            refine RW.guardF rfl rfl rfl h1 ?_
            refine RW.guardF rfl rfl rfl h1 ?_
            refine RW.guardF rfl rfl rfl h1 ?_
            refine RW.pickC rfl rfl h1 rfl ?_
            refine RW.nil (EX.seq ?_)
            -- mq: cond
            refine CW.condF rfl (rfl) ?_
            refine CW.skip ?_
            -- mq: joinend
            exact EX.jn (Sub.cons (congrArg (fun b => some (Value.bool b)) (by cases rest <;> simp [nextPairs, pairs, h1p])) (by repeat (first | exact Sub.nil | refine Sub.cons (by rfl) ?_))) (fun _ h => h)
        · skip
          have hlast : ((out.length : Int) = (n : Int) - 1) ↔ rest = [] := by
            constructor
            · intro h; exact List.eq_nil_of_length_eq_zero (by omega)
            · intro h; subst h; simp at hl1; omega
          refine EX.seq (CW.seq ?_)
          -- mq: region
          refine CW.join ([(8, .bool (stays x rest)), (4, .bool (nextPairs x rest)), (0, .slice A n c), (3, v), (5, .int .i64 (out.length : Int)), (6, .pointer (some ⟨g6, 0, none⟩))]) (SH w [] [blk g6 x.enc 34, own 34 8 v out.length (ECell.all out)]) ?_ ?_
          · skip
            refine CW.region ?_
            refine RW.move rfl rfl ?_
            refine RW.move rfl rfl ?_
            -- mq: guard slot 64
            refine RW.casesB 64 rfl (fun h1 => ?_) (fun h1 => ?_)
            · skip
              refine RW.guardF rfl rfl rfl h1 ?_
              refine RW.guardF rfl rfl rfl h1 ?_
              refine RW.guardF rfl rfl rfl h1 ?_
              refine RW.pickB rfl rfl h1 rfl ?_
              refine RW.move rfl rfl ?_
              refine RW.guardF rfl rfl rfl rfl ?_
              refine RW.guardF rfl rfl rfl rfl ?_
              refine RW.guardF rfl rfl rfl rfl ?_
              refine RW.guardF rfl rfl rfl rfl ?_
              refine RW.guardU rfl rfl rfl ?_
              refine RW.guardU rfl rfl rfl ?_
              refine RW.guardU rfl rfl rfl ?_
              refine RW.guardU rfl rfl rfl ?_
              refine RW.guardU rfl rfl rfl ?_
              refine RW.guardF rfl rfl rfl rfl ?_
              refine RW.pickB rfl rfl rfl rfl ?_
              refine RW.assign rfl rfl ?_
              refine RW.nil ?_
              -- mq: joinend
              exact EX.jn (Sub.cons (congrArg (fun b => some (Value.bool b)) (by simp [stays, h1])) (by repeat (first | exact Sub.nil | refine Sub.cons (by rfl) ?_))) (fun _ h => h)
            · skip
              refine RW.guardT rfl rfl h1 ?_
              refine RW.fieldB fl34x2 rfl rfl ?_
              refine RW.guardT rfl rfl h1 ?_
              refine RW.loadB1 sc3 rfl rfl (by first | exact Has.head | exact Has.tail Has.head | exact Has.tail (Has.tail Has.head) | exact Has.tail (Has.tail (Has.tail Has.head)) | exact Has.tail (Has.tail (Has.tail (Has.tail Has.head))) | exact Has.tail (Has.tail (Has.tail (Has.tail (Has.tail Has.head)))) | exact Has.tail (Has.tail (Has.tail (Has.tail (Has.tail (Has.tail Has.head)))))) rfl ?_
              refine RW.guardT rfl rfl h1 ?_
              refine RW.eqlI rfl rfl rfl ?_
              refine RW.pickC rfl rfl h1 rfl ?_
              refine RW.move rfl rfl ?_
              -- mq: guard slot 69
              refine RW.casesB 69 rfl (fun h2 => ?_) (fun h2 => ?_)
              · skip
                have h2p := of_decide_eq_true h2
                refine RW.guardF rfl rfl rfl h2 ?_
                refine RW.guardF rfl rfl rfl h2 ?_
                refine RW.guardF rfl rfl rfl h2 ?_
                refine RW.guardF rfl rfl rfl h2 ?_
                refine RW.guardU rfl rfl rfl ?_
                refine RW.guardU rfl rfl rfl ?_
                refine RW.guardU rfl rfl rfl ?_
                refine RW.guardU rfl rfl rfl ?_
                refine RW.guardU rfl rfl rfl ?_
                refine RW.guardF rfl rfl rfl h2 ?_
                refine RW.pickB rfl rfl h2 rfl ?_
                refine RW.assign rfl rfl ?_
                refine RW.nil ?_
                -- mq: joinend
                exact EX.jn (Sub.cons (congrArg (fun b => some (Value.bool b)) (by simp [stays, h1, h2p])) (by repeat (first | exact Sub.nil | refine Sub.cons (by rfl) ?_))) (fun _ h => h)
              · skip
                have h2p := of_decide_eq_false h2
                refine RW.guardT rfl rfl h2 ?_
                refine RW.fieldB fl34x2 rfl rfl ?_
                refine RW.guardT rfl rfl h2 ?_
                refine RW.loadB1 sc3 rfl rfl (by first | exact Has.head | exact Has.tail Has.head | exact Has.tail (Has.tail Has.head) | exact Has.tail (Has.tail (Has.tail Has.head)) | exact Has.tail (Has.tail (Has.tail (Has.tail Has.head))) | exact Has.tail (Has.tail (Has.tail (Has.tail (Has.tail Has.head)))) | exact Has.tail (Has.tail (Has.tail (Has.tail (Has.tail (Has.tail Has.head)))))) rfl ?_
                refine RW.guardT rfl rfl h2 ?_
                refine RW.eqlI rfl rfl rfl ?_
                refine RW.guardT rfl rfl h2 ?_
                refine RW.move rfl rfl ?_
                -- mq: guard slot 73
                refine RW.casesB 73 rfl (fun h3 => ?_) (fun h3 => ?_)
                · skip
                  have h3p := of_decide_eq_true h3
                  refine RW.guardT rfl rfl h3 ?_
                  refine RW.move rfl rfl ?_
                  refine RW.guardT rfl rfl h3 ?_
                  refine RW.move rfl rfl ?_
                  refine RW.guardT rfl rfl h3 ?_
                  refine RW.lenSl Try.underlying22 rfl rfl ?_
                  refine RW.guardT rfl rfl h3 ?_
                  refine RW.sub_ rfl rfl rfl (wrap64 (by omega) (by omega)) ?_
                  refine RW.guardT rfl rfl h3 ?_
                  refine RW.eqlI rfl rfl rfl ?_
                  refine RW.guardT rfl rfl h2 ?_
                  refine RW.pickB rfl rfl h3 rfl ?_
                  refine RW.pickC rfl rfl h2 rfl ?_
                  refine RW.assign rfl rfl ?_
                  refine RW.nil ?_
                  -- mq: joinend
                  exact EX.jn (Sub.cons (congrArg (fun b => some (Value.bool b)) (by rw [stays, h1, decide_eq_false h2p, decide_eq_true h3p, Bool.false_or, Bool.false_or, Bool.true_and]; exact decide_eq_decide.2 hlast)) (by repeat (first | exact Sub.nil | refine Sub.cons (by rfl) ?_))) (fun _ h => h)
                · skip
                  have h3p := of_decide_eq_false h3
                  refine RW.guardF rfl rfl rfl h3 ?_
                  refine RW.guardF rfl rfl rfl h3 ?_
                  refine RW.guardF rfl rfl rfl h3 ?_
                  refine RW.guardF rfl rfl rfl h3 ?_
                  refine RW.guardF rfl rfl rfl h3 ?_
                  refine RW.guardT rfl rfl h2 ?_
                  refine RW.pickC rfl rfl h3 rfl ?_
                  refine RW.pickC rfl rfl h2 rfl ?_
                  refine RW.assign rfl rfl ?_
                  refine RW.nil ?_
                  -- mq: joinend
                  exact EX.jn (Sub.cons (congrArg (fun b => some (Value.bool b)) (by simp [stays, h1, h2p, h3p])) (by repeat (first | exact Sub.nil | refine Sub.cons (by rfl) ?_))) (fun _ h => h)
          · skip
            refine EX.seq (CW.seq ?_)
            -- mq: seq
            refine CW.join ([(4, .bool (nextPairs x rest)), (0, .slice A n c), (3, v), (5, .int .i64 (out.length : Int)), (6, .pointer (some ⟨g6, 0, none⟩))]) (SH w [] [blk g6 (stepC x rest).enc 34, own 34 8 v out.length (ECell.all out)]) ?_ ?_
            · skip
              refine CW.seq (CW.region ?_)
              refine RW.move rfl rfl ?_
              refine RW.not_ rfl rfl ?_
              refine RW.nil (EX.seq ?_)
              -- mq: cond
              first | refine CW.condD rfl (fun hs => ?_) (fun hs => ?_) | refine CW.cond rfl (fun hs => ?_) (fun hs => ?_)
              · skip
                refine CW.region ?_
                refine RW.fieldB fl34x3 rfl rfl ?_
                refine RW.loadBA ag32 rfl rfl (by first | exact Has.head | exact Has.tail Has.head | exact Has.tail (Has.tail Has.head) | exact Has.tail (Has.tail (Has.tail Has.head)) | exact Has.tail (Has.tail (Has.tail (Has.tail Has.head))) | exact Has.tail (Has.tail (Has.tail (Has.tail (Has.tail Has.head)))) | exact Has.tail (Has.tail (Has.tail (Has.tail (Has.tail (Has.tail Has.head)))))) rfl rfl ?_
                refine RW.buildS bu34 rfl rfl rfl ?_
                refine RW.storeA ag34 rfl rfl (by first | exact Upd.head | exact Upd.tail Upd.head | exact Upd.tail (Upd.tail Upd.head) | exact Upd.tail (Upd.tail (Upd.tail Upd.head)) | exact Upd.tail (Upd.tail (Upd.tail (Upd.tail Upd.head))) | exact Upd.tail (Upd.tail (Upd.tail (Upd.tail (Upd.tail Upd.head)))) | exact Upd.tail (Upd.tail (Upd.tail (Upd.tail (Upd.tail (Upd.tail Upd.head)))))) (by first | rfl | exact Enc.len _ _) (by repeat (first | exact Ones.nil | exact Enc.ones _ _ | refine Ones.cons rfl ?_)) (by first | exact Nat.le_of_ble_eq_true rfl | (simp only [Enc.len]; decide)) ?_
                refine RW.nil ?_
                -- mq: joinend
                refine EX.jn (by repeat (first | exact Sub.nil | refine Sub.cons (by rfl) ?_)) (fun w' hw' => ?_)
                rw [stepC, if_neg (by simpa using hs)]
                exact hw'
              · skip
                refine CW.skip ?_
                -- mq: joinend
                refine EX.jn (by repeat (first | exact Sub.nil | refine Sub.cons (by rfl) ?_)) (fun w' hw' => ?_)
                rw [stepC, if_pos (by simpa using hs)]
                exact hw'
            · skip
              refine EX.seq (CW.region ?_)
              refine RW.move rfl rfl ?_
              refine RW.loadBA ag34 rfl rfl (by first | exact Has.head | exact Has.tail Has.head | exact Has.tail (Has.tail Has.head) | exact Has.tail (Has.tail (Has.tail Has.head)) | exact Has.tail (Has.tail (Has.tail (Has.tail Has.head))) | exact Has.tail (Has.tail (Has.tail (Has.tail (Has.tail Has.head)))) | exact Has.tail (Has.tail (Has.tail (Has.tail (Has.tail (Has.tail Has.head)))))) rfl rfl ?_
              refine RW.buildSlc sl22 rfl rfl rfl rfl (fun g88 hg88 hf88 => ?_)
              refine RW.append1 sl22 rfl rfl rfl (by first | exact Rem.head | exact Rem.tail Rem.head | exact Rem.tail (Rem.tail Rem.head) | exact Rem.tail (Rem.tail (Rem.tail Rem.head)) | exact Rem.tail (Rem.tail (Rem.tail (Rem.tail Rem.head))) | exact Rem.tail (Rem.tail (Rem.tail (Rem.tail (Rem.tail Rem.head)))) | exact Rem.tail (Rem.tail (Rem.tail (Rem.tail (Rem.tail (Rem.tail Rem.head)))))) (fun _ => by first | exact Upd.head | exact Upd.tail Upd.head | exact Upd.tail (Upd.tail Upd.head) | exact Upd.tail (Upd.tail (Upd.tail Upd.head)) | exact Upd.tail (Upd.tail (Upd.tail (Upd.tail Upd.head))) | exact Upd.tail (Upd.tail (Upd.tail (Upd.tail (Upd.tail Upd.head)))) | exact Upd.tail (Upd.tail (Upd.tail (Upd.tail (Upd.tail (Upd.tail Upd.head)))))) rfl (by repeat (first | exact Ones.nil | exact Enc.ones _ _ | refine Ones.cons rfl ?_)) (by simp only [maxLen]; omega) (by omega) (fun v89 hv89 => ?_)
              refine RW.assign rfl rfl ?_
              refine RW.nil (EX.bkN (EX.seq (CW.region ?_)))
              refine RW.move rfl rfl ?_
              refine RW.add rfl rfl rfl (wrap64 (by omega) (by omega)) ?_
              refine RW.assign rfl rfl ?_
              refine RW.nil ?_
              -- mq: loopend
              refine EX.lpN (v89, out ++ [stepC x rest], nextPairs x rest, rest) ⟨by simp; omega, by rw [hrest]; simp, by rw [hm]; simp [mendState, mend_step], fun h e => by subst e; simp [nextPairs] at h, fun g hg => by
                rcases hv89 g hg with h | h
                · exact hv g h
                · exact h.1⟩ (by simp) (Sub.cons (by rfl) (Sub.cons (by rfl) (Sub.cons (by rfl) (Sub.cons (by simp [look]) Sub.nil)))) (fun w' hw' => ?_)
              rw [List.length_append, Enc.all_snoc]
              exact hw'.rem Rem.head
    · skip
      refine CW.exit (EX.seqE (EX.lpE (EX.bkE (EX.seq (CW.seq (CW.region ?_))))))
      refine RW.move rfl rfl ?_
      refine RW.assign rfl rfl ?_
      refine RW.nil (EX.seq (CW.ret ?_))
      refine EX.fin1 Try.results15 rfl (fun wz hw => ?_)
      -- mq: done
      have hr0 : rest = [] := List.eq_nil_of_length_eq_zero (by omega)
      subst hr0
      have hpd0 : pd = false := by cases pd <;> simp_all
      subst hpd0
      have hout : mendL row = out := by rw [hm]; simp [mendState, mendL]
      rw [hout]
      exact RetSl.of_own hw.ext (hw.has Has.head) rfl hv
end Go.Proofs.Ytmdmdlfdijdhgaa.Mq
