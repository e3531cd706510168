/- text: chapter 8 for this seat: Ref1, Ref2, Law1, Law2, Lines (printed by gen_flow.py) -/
import Derived.Test.YtjmmikdbhhomiaaFl1
namespace Go.Proofs.Ytjmmikdbhhomiaa.Mq
open Go Go.RowKit Go.Proofs

theorem pairs_eq (c d : CellV) : pairs c d = (decide (c.half = 1) && (decide (d.half = 2) && (decide (d.r = c.r) && (decide (d.more = c.more) && decide (d.at_ = c.at_))))) := by
  rw [Bool.eq_iff_iff]
  simp only [pairs, pairB, Bool.and_eq_true, decide_eq_true_eq]
  constructor
  · rintro ⟨⟨h1, h2⟩, _, h4⟩
    have h4' := h4
    cases c; cases d
    simp at h4
    simp at h1 h2
    simp [h4, h1, h2]
  · rintro ⟨h1, h2, h3, h4, h5⟩
    refine ⟨⟨h1, h2⟩, h1, ?_⟩
    cases c; cases d
    simp at h1 h2 h3 h4 h5
    simp [h1, h3, h4, h5]
def stays (x : CellV) (rest : List CellV) : Bool := nextPairs x rest || (decide (x.half = 0) || (decide (x.half = 3) && decide (rest = [])))
def stepC (x : CellV) (rest : List CellV) : CellV := if stays x rest then x else emptyC x.at_
def mendState (b : Bool) (rest : List CellV) : List CellV := if b then (match rest with | [] => [] | c :: l => c :: mendL l) else mendL rest
theorem mend_step (x : CellV) (rest : List CellV) : mendL (x :: rest) = stepC x rest :: mendState (nextPairs x rest) rest := by
  cases rest with
  | nil =>
    by_cases h0 : x.half = 0
    · simp [mendL, stepC, stays, nextPairs, mendState, h0]
    · by_cases h3 : x.half = 3 <;> simp [mendL, stepC, stays, nextPairs, mendState, h0, h3]
  | cons d l =>
    by_cases h0 : x.half = 0
    · have hp : pairs x d = false := by simp [pairs, h0]
      simp [mendL, stepC, stays, nextPairs, mendState, h0, hp]
    · cases hp : pairs x d <;> simp [mendL, stepC, stays, nextPairs, mendState, h0, hp]
theorem refMend_c (w : World) (F : Nat → Prop) (A : Option Addr) (n c : Nat) (row : List CellV) (hr : Rd ECell w F A n c row) (hn : n ≤ 1000000) :
    Calls Try.prog 12 [.slice A n c].toArray w (RetSl ECell w (mendL row)) := by
  have hl := hr.len
  refine calls (n := 91) Try.func12 rfl Try.ntmps12 rfl ?_
  refine CW.sub (H' := SH w [] []) ?_ (Sub.refl _) (fun x hx => SH.start' _ _ hx)
  refine CW.ownNil 37 8 ?_
  refine CW.seq (CW.region ?_)
  refine RW.assign rfl rfl ?_
  refine RW.nil (EX.seq (CW.seq (CW.region ?_)))
  refine RW.assign rfl rfl ?_
  refine RW.nil (EX.seq (CW.seq (CW.region ?_)))
  refine RW.assign rfl rfl ?_
  refine RW.nil (EX.seq (CW.seq (CW.seq (CW.region ?_))))
  refine RW.assign rfl rfl ?_
  refine RW.nil (EX.seq (CW.block ?_))
  -- mq: loop
  refine CW.loop (ι := Value × List CellV × Bool × List CellV) (fun i => [(0, .slice A n c), (3, i.1), (4, .bool i.2.2.1), (5, .int .i64 (i.2.1.length : Int))]) (fun i => SH w [] [own 37 8 i.1 i.2.1.length (ECell.all i.2.1)]) (fun i => i.2.1.length + i.2.2.2.length = n ∧ i.2.2.2 = row.drop i.2.1.length ∧ mendL row = i.2.1 ++ mendState i.2.2.1 i.2.2.2 ∧ (i.2.2.1 = true → i.2.2.2 ≠ []) ∧ ∀ g, i.1.ownBlock = some g → w.heap.size ≤ g) (fun i => i.2.2.2.length) ?_ ?_
  · exact fun w hw => ⟨(.slice none 0 0, [], false, row), ⟨by simpa using hl, by simp, rfl, by simp, by simp [Value.ownBlock]⟩, (by repeat (first | exact Sub.nil | refine Sub.cons (by rfl) ?_)), hw⟩
  · rintro ⟨v, out, pd, rest⟩ ⟨hlen, hdrop, hm, hpd, hv⟩
    dsimp only at hlen hdrop hm hpd hv ⊢
    refine CW.seq (CW.seq (CW.region ?_))
    refine RW.move rfl rfl ?_
    refine RW.move rfl rfl ?_
    refine RW.lenSl Try.underlying29 rfl rfl ?_
    refine RW.lss rfl rfl rfl ?_
    refine RW.nil (EX.seq ?_)
    -- mq: cond
    first | refine CW.condD rfl (fun hlt => ?_) (fun hlt => ?_) | refine CW.cond rfl (fun hlt => ?_) (fun hlt => ?_)
    · skip
      cases rest with
      | nil => simp at hlen; omega
      | cons x rest =>
      have hx : row[out.length]? = some x := by
        have := congrArg (fun l => l[0]?) hdrop
        simpa using this.symm
      have hrest : rest = row.drop (out.length + 1) := by
        have := congrArg List.tail hdrop
        simpa using this
      have hl1 : out.length + 1 + rest.length = n := by simp at hlen; omega
      obtain ⟨ad, hA, _, hcell⟩ := hr.at_ hx
      refine CW.skip (EX.seq (CW.seq (CW.block (CW.seq (CW.region ?_)))))
      refine RW.move rfl rfl ?_
      refine RW.move rfl rfl ?_
      refine RW.ixAddr sl29 rfl rfl rfl (by first | rfl | assumption) (by rfl) (by omega) ?_
      refine RW.loadA ag37 rfl rfl (rfl) (fun w' hw' j u hj => hw'.base_cell (hcell j u hj) (by simp)) ?_
      refine RW.allocA ag37 rfl (fun g6 hg6 hf6 => ?_)
      refine RW.storeA ag37 rfl rfl (by first | exact Upd.head | exact Upd.tail Upd.head | exact Upd.tail (Upd.tail Upd.head) | exact Upd.tail (Upd.tail (Upd.tail Upd.head)) | exact Upd.tail (Upd.tail (Upd.tail (Upd.tail Upd.head))) | exact Upd.tail (Upd.tail (Upd.tail (Upd.tail (Upd.tail Upd.head)))) | exact Upd.tail (Upd.tail (Upd.tail (Upd.tail (Upd.tail (Upd.tail Upd.head)))))) (by first | rfl | exact Enc.len _ _) (by repeat (first | exact Ones.nil | exact Enc.ones _ _ | refine Ones.cons rfl ?_)) (by first | exact Nat.le_of_ble_eq_true rfl | (simp only [Enc.len]; decide)) ?_
      refine RW.nil (EX.seq (CW.seq (CW.seq (CW.region ?_))))
      refine RW.move rfl rfl ?_
      refine RW.nil (EX.seq ?_)
      -- mq: cond
      first | refine CW.condD rfl (fun hp => ?_) (fun hp => ?_) | refine CW.cond rfl (fun hp => ?_) (fun hp => ?_)
      · skip
        refine CW.seq (CW.region ?_)
        refine RW.move rfl rfl ?_
        refine RW.loadBA ag37 rfl rfl (by first | exact Has.head | exact Has.tail Has.head | exact Has.tail (Has.tail Has.head) | exact Has.tail (Has.tail (Has.tail Has.head)) | exact Has.tail (Has.tail (Has.tail (Has.tail Has.head))) | exact Has.tail (Has.tail (Has.tail (Has.tail (Has.tail Has.head)))) | exact Has.tail (Has.tail (Has.tail (Has.tail (Has.tail (Has.tail Has.head)))))) rfl rfl ?_
        refine RW.buildSlc sl29 rfl rfl rfl rfl (fun g22 hg22 hf22 => ?_)
        refine RW.append1 sl29 rfl rfl rfl (by first | exact Rem.head | exact Rem.tail Rem.head | exact Rem.tail (Rem.tail Rem.head) | exact Rem.tail (Rem.tail (Rem.tail Rem.head)) | exact Rem.tail (Rem.tail (Rem.tail (Rem.tail Rem.head))) | exact Rem.tail (Rem.tail (Rem.tail (Rem.tail (Rem.tail Rem.head)))) | exact Rem.tail (Rem.tail (Rem.tail (Rem.tail (Rem.tail (Rem.tail Rem.head)))))) (fun _ => by first | exact Upd.head | exact Upd.tail Upd.head | exact Upd.tail (Upd.tail Upd.head) | exact Upd.tail (Upd.tail (Upd.tail Upd.head)) | exact Upd.tail (Upd.tail (Upd.tail (Upd.tail Upd.head))) | exact Upd.tail (Upd.tail (Upd.tail (Upd.tail (Upd.tail Upd.head)))) | exact Upd.tail (Upd.tail (Upd.tail (Upd.tail (Upd.tail (Upd.tail Upd.head)))))) rfl (by repeat (first | exact Ones.nil | exact Enc.ones _ _ | refine Ones.cons rfl ?_)) (by simp only [maxLen]; omega) (by omega) (fun v23 hv23 => ?_)
        refine RW.assign rfl rfl ?_
        refine RW.nil (EX.seq (CW.seq (CW.region ?_)))
        refine RW.assign rfl rfl ?_
        refine RW.nil (EX.seq (CW.exit (EX.seqE (EX.bkE (EX.seq (CW.region ?_))))))
        refine RW.move rfl rfl ?_
        refine RW.add rfl rfl rfl (wrap64 (by omega) (by omega)) ?_
        refine RW.assign rfl rfl ?_
        refine RW.nil ?_
        -- mq: loopend
        subst hp
        refine EX.lpN (v23, out ++ [x], false, rest) ⟨by simp; omega, by rw [hrest]; simp, by rw [hm]; simp [mendState], by simp, fun g hg => by
          rcases hv23 g hg with h | h
          · exact hv g h
          · exact h.1⟩ (by simp) (Sub.cons (by rfl) (Sub.cons (by rfl) (Sub.cons (by rfl) (Sub.cons (by simp [look]) Sub.nil)))) (fun w' hw' => ?_)
        rw [List.length_append, Enc.all_snoc]
        exact hw'.rem Rem.head
      · skip
        refine CW.skip (EX.seq (CW.seq ?_))
        -- mq: seq
        subst hp
        refine CW.join ([(4, .bool (nextPairs x rest)), (0, .slice A n c), (3, v), (5, .int .i64 (out.length : Int)), (6, .pointer (some ⟨g6, 0, none⟩))]) (SH w [] [blk g6 x.enc 37, own 37 8 v out.length (ECell.all out)]) ?_ ?_
        · skip
          refine CW.seq (CW.region ?_)
          refine RW.fieldB fl37x2 rfl rfl ?_
          refine RW.loadB1 sc3 rfl rfl (by first | exact Has.head | exact Has.tail Has.head | exact Has.tail (Has.tail Has.head) | exact Has.tail (Has.tail (Has.tail Has.head)) | exact Has.tail (Has.tail (Has.tail (Has.tail Has.head))) | exact Has.tail (Has.tail (Has.tail (Has.tail (Has.tail Has.head)))) | exact Has.tail (Has.tail (Has.tail (Has.tail (Has.tail (Has.tail Has.head)))))) rfl ?_
          refine RW.eqlI rfl rfl rfl ?_
          refine RW.move rfl rfl ?_
          -- mq: guard slot 27
          refine RW.casesB 27 rfl (fun h1 => ?_) (fun h1 => ?_)
          · skip
            have h1p := of_decide_eq_true h1
            refine RW.guardT rfl rfl h1 ?_
            refine RW.move rfl rfl ?_
            refine RW.guardT rfl rfl h1 ?_
            refine RW.move rfl rfl ?_
            refine RW.guardT rfl rfl h1 ?_
            refine RW.lenSl Try.underlying29 rfl rfl ?_
            refine RW.guardT rfl rfl h1 ?_
            refine RW.sub_ rfl rfl rfl (wrap64 (by omega) (by omega)) ?_
            refine RW.guardT rfl rfl h1 ?_
            refine RW.lss rfl rfl rfl ?_
            refine RW.pickB rfl rfl h1 rfl ?_
            refine RW.nil (EX.seq ?_)
            -- mq: cond
            first | refine CW.condD rfl (fun h2 => ?_) (fun h2 => ?_) | refine CW.cond rfl (fun h2 => ?_) (fun h2 => ?_)
            · skip
              cases rest with
              | nil => simp at hl1; omega
              | cons y rest =>
              have hy : row[out.length + 1]? = some y := by
                have := congrArg (fun l => l[0]?) hrest
                simpa using this.symm
              obtain ⟨ad2, hA2, _, hcell2⟩ := hr.at_ hy
              refine CW.seq (CW.region ?_)
              refine RW.move rfl rfl ?_
              refine RW.move rfl rfl ?_
              refine RW.add rfl rfl rfl (wrap64 (by omega) (by omega)) ?_
              refine RW.ixAddr (q := out.length + 1) sl29 rfl rfl rfl (by first | rfl | assumption) (by omega) (by omega) ?_
              refine RW.loadA ag37 rfl rfl (rfl) (fun w' hw' j u hj => hw'.base_cell (hcell2 j u hj) (by simp)) ?_
              refine RW.allocA ag37 rfl (fun g7 hg7 hf7 => ?_)
              refine RW.storeA ag37 rfl rfl (by first | exact Upd.head | exact Upd.tail Upd.head | exact Upd.tail (Upd.tail Upd.head) | exact Upd.tail (Upd.tail (Upd.tail Upd.head)) | exact Upd.tail (Upd.tail (Upd.tail (Upd.tail Upd.head))) | exact Upd.tail (Upd.tail (Upd.tail (Upd.tail (Upd.tail Upd.head)))) | exact Upd.tail (Upd.tail (Upd.tail (Upd.tail (Upd.tail (Upd.tail Upd.head)))))) (by first | rfl | exact Enc.len _ _) (by repeat (first | exact Ones.nil | exact Enc.ones _ _ | refine Ones.cons rfl ?_)) (by first | exact Nat.le_of_ble_eq_true rfl | (simp only [Enc.len]; decide)) ?_
              refine RW.nil (EX.seq (CW.region ?_))
              refine RW.fieldB fl37x2 rfl rfl ?_
              refine RW.loadB1 sc3 rfl rfl (by first | exact Has.head | exact Has.tail Has.head | exact Has.tail (Has.tail Has.head) | exact Has.tail (Has.tail (Has.tail Has.head)) | exact Has.tail (Has.tail (Has.tail (Has.tail Has.head))) | exact Has.tail (Has.tail (Has.tail (Has.tail (Has.tail Has.head)))) | exact Has.tail (Has.tail (Has.tail (Has.tail (Has.tail (Has.tail Has.head)))))) rfl ?_
              refine RW.eqlI rfl rfl rfl ?_
              refine RW.move rfl rfl ?_
              -- mq: guard slot 42
              refine RW.casesB 42 rfl (fun h3 => ?_) (fun h3 => ?_)
              · skip
                have h3p := of_decide_eq_true h3
                refine RW.guardT rfl rfl h3 ?_
                refine RW.fieldB fl37x0 rfl rfl ?_
                refine RW.guardT rfl rfl h3 ?_
                refine RW.loadB1 sc21 rfl rfl (by first | exact Has.head | exact Has.tail Has.head | exact Has.tail (Has.tail Has.head) | exact Has.tail (Has.tail (Has.tail Has.head)) | exact Has.tail (Has.tail (Has.tail (Has.tail Has.head))) | exact Has.tail (Has.tail (Has.tail (Has.tail (Has.tail Has.head)))) | exact Has.tail (Has.tail (Has.tail (Has.tail (Has.tail (Has.tail Has.head)))))) rfl ?_
                refine RW.guardT rfl rfl h3 ?_
                refine RW.fieldB fl37x0 rfl rfl ?_
                refine RW.guardT rfl rfl h3 ?_
                refine RW.loadB1 sc21 rfl rfl (by first | exact Has.head | exact Has.tail Has.head | exact Has.tail (Has.tail Has.head) | exact Has.tail (Has.tail (Has.tail Has.head)) | exact Has.tail (Has.tail (Has.tail (Has.tail Has.head))) | exact Has.tail (Has.tail (Has.tail (Has.tail (Has.tail Has.head)))) | exact Has.tail (Has.tail (Has.tail (Has.tail (Has.tail (Has.tail Has.head)))))) rfl ?_
                refine RW.guardT rfl rfl h3 ?_
                refine RW.eqlI rfl rfl rfl ?_
                refine RW.pickB rfl rfl h3 rfl ?_
                refine RW.move rfl rfl ?_
                -- mq: guard slot 49
                refine RW.casesB 49 rfl (fun h4 => ?_) (fun h4 => ?_)
                · skip
                  have h4p := of_decide_eq_true h4
                  refine RW.guardT rfl rfl h4 ?_
                  refine RW.fieldB fl37x1 rfl rfl ?_
                  refine RW.guardT rfl rfl h4 ?_
                  refine RW.loadB1 sc9 rfl rfl (by first | exact Has.head | exact Has.tail Has.head | exact Has.tail (Has.tail Has.head) | exact Has.tail (Has.tail (Has.tail Has.head)) | exact Has.tail (Has.tail (Has.tail (Has.tail Has.head))) | exact Has.tail (Has.tail (Has.tail (Has.tail (Has.tail Has.head)))) | exact Has.tail (Has.tail (Has.tail (Has.tail (Has.tail (Has.tail Has.head)))))) rfl ?_
                  refine RW.guardT rfl rfl h4 ?_
                  refine RW.fieldB fl37x1 rfl rfl ?_
                  refine RW.guardT rfl rfl h4 ?_
                  refine RW.loadB1 sc9 rfl rfl (by first | exact Has.head | exact Has.tail Has.head | exact Has.tail (Has.tail Has.head) | exact Has.tail (Has.tail (Has.tail Has.head)) | exact Has.tail (Has.tail (Has.tail (Has.tail Has.head))) | exact Has.tail (Has.tail (Has.tail (Has.tail (Has.tail Has.head)))) | exact Has.tail (Has.tail (Has.tail (Has.tail (Has.tail (Has.tail Has.head)))))) rfl ?_
                  refine RW.guardT rfl rfl h4 ?_
                  refine RW.eqlS rfl rfl rfl ?_
                  refine RW.pickB rfl rfl h4 rfl ?_
                  refine RW.move rfl rfl ?_
                  -- mq: guard slot 56
                  refine RW.casesB 56 rfl (fun h5 => ?_) (fun h5 => ?_)
                  · skip
                    have h5p := of_decide_eq_true h5
                    refine RW.guardT rfl rfl h5 ?_
                    refine RW.fieldB fl37x3 rfl rfl ?_
                    refine RW.guardT rfl rfl h5 ?_
                    refine RW.loadBA ag35 rfl rfl (by first | exact Has.head | exact Has.tail Has.head | exact Has.tail (Has.tail Has.head) | exact Has.tail (Has.tail (Has.tail Has.head)) | exact Has.tail (Has.tail (Has.tail (Has.tail Has.head))) | exact Has.tail (Has.tail (Has.tail (Has.tail (Has.tail Has.head)))) | exact Has.tail (Has.tail (Has.tail (Has.tail (Has.tail (Has.tail Has.head)))))) rfl rfl ?_
                    refine RW.guardT rfl rfl h5 ?_
                    refine RW.fieldB fl37x3 rfl rfl ?_
                    refine RW.guardT rfl rfl h5 ?_
                    refine RW.loadBA ag35 rfl rfl (by first | exact Has.head | exact Has.tail Has.head | exact Has.tail (Has.tail Has.head) | exact Has.tail (Has.tail (Has.tail Has.head)) | exact Has.tail (Has.tail (Has.tail (Has.tail Has.head))) | exact Has.tail (Has.tail (Has.tail (Has.tail (Has.tail Has.head)))) | exact Has.tail (Has.tail (Has.tail (Has.tail (Has.tail (Has.tail Has.head)))))) rfl rfl ?_
                    refine RW.guardT rfl rfl h5 ?_
                    refine RW.eqlSt eq35 rfl rfl rfl (by kernel_rfl) (eqv_attr y.at_ x.at_) ?_
                    refine RW.pickB rfl rfl h5 rfl ?_
                    refine RW.assign rfl rfl ?_
                    refine RW.nil ?_
                    -- mq: joinend
                    exact EX.jn (Sub.cons (congrArg (fun b => some (Value.bool b)) (by rw [nextPairs, pairs_eq]; simp [h1p, h3p, h4p, h5p])) (by repeat (first | exact Sub.nil | refine Sub.cons (by rfl) ?_))) (fun _ h => h.rem Rem.head)
                  · skip
                    have h5p := of_decide_eq_false h5
                    refine RW.guardF rfl rfl rfl h5 ?_
                    refine RW.guardF rfl rfl rfl h5 ?_
                    refine RW.guardF rfl rfl rfl h5 ?_
                    refine RW.guardF rfl rfl rfl h5 ?_
                    refine RW.guardF rfl rfl rfl h5 ?_
                    refine RW.pickC rfl rfl h5 rfl ?_
                    refine RW.assign rfl rfl ?_
                    refine RW.nil ?_
                    -- mq: joinend
                    exact EX.jn (Sub.cons (congrArg (fun b => some (Value.bool b)) (by rw [nextPairs, pairs_eq]; simp [h1p, h3p, h4p, h5p])) (by repeat (first | exact Sub.nil | refine Sub.cons (by rfl) ?_))) (fun _ h => h.rem Rem.head)
                · skip
                  have h4p := of_decide_eq_false h4
                  refine RW.guardF rfl rfl rfl h4 ?_
                  refine RW.guardF rfl rfl rfl h4 ?_
                  refine RW.guardF rfl rfl rfl h4 ?_
                  refine RW.guardF rfl rfl rfl h4 ?_
                  refine RW.guardF rfl rfl rfl h4 ?_
                  refine RW.pickC rfl rfl h4 rfl ?_
                  refine RW.move rfl rfl ?_
                  refine RW.guardF rfl rfl rfl rfl ?_
                  refine RW.guardF rfl rfl rfl rfl ?_
                  refine RW.guardF rfl rfl rfl rfl ?_
                  refine RW.guardF rfl rfl rfl rfl ?_
                  refine RW.guardF rfl rfl rfl rfl ?_
                  refine RW.pickC rfl rfl rfl rfl ?_
                  refine RW.assign rfl rfl ?_
                  refine RW.nil ?_
                  -- mq: joinend
                  exact EX.jn (Sub.cons (congrArg (fun b => some (Value.bool b)) (by rw [nextPairs, pairs_eq]; simp [h1p, h3p, h4p])) (by repeat (first | exact Sub.nil | refine Sub.cons (by rfl) ?_))) (fun _ h => h.rem Rem.head)
              · skip
                have h3p := of_decide_eq_false h3
                refine RW.guardF rfl rfl rfl h3 ?_
                refine RW.guardF rfl rfl rfl h3 ?_
                refine RW.guardF rfl rfl rfl h3 ?_
                refine RW.guardF rfl rfl rfl h3 ?_
                refine RW.guardF rfl rfl rfl h3 ?_
                refine RW.pickC rfl rfl h3 rfl ?_
                refine RW.move rfl rfl ?_
                refine RW.guardF rfl rfl rfl rfl ?_
                refine RW.guardF rfl rfl rfl rfl ?_
                refine RW.guardF rfl rfl rfl rfl ?_
                refine RW.guardF rfl rfl rfl rfl ?_
                refine RW.guardF rfl rfl rfl rfl ?_
                refine RW.pickC rfl rfl rfl rfl ?_
                refine RW.move rfl rfl ?_
                refine RW.guardF rfl rfl rfl rfl ?_
                refine RW.guardF rfl rfl rfl rfl ?_
                refine RW.guardF rfl rfl rfl rfl ?_
                refine RW.guardF rfl rfl rfl rfl ?_
                refine RW.guardF rfl rfl rfl rfl ?_
                refine RW.pickC rfl rfl rfl rfl ?_
                refine RW.assign rfl rfl ?_
                refine RW.nil ?_
                -- mq: joinend
                exact EX.jn (Sub.cons (congrArg (fun b => some (Value.bool b)) (by rw [nextPairs, pairs_eq]; simp [h3p])) (by repeat (first | exact Sub.nil | refine Sub.cons (by rfl) ?_))) (fun _ h => h.rem Rem.head)
            · skip
              refine CW.skip ?_
              -- mq: joinend
              have hr0 : rest = [] := List.eq_nil_of_length_eq_zero (by omega)
              subst hr0
              exact EX.jn (by repeat (first | exact Sub.nil | refine Sub.cons (by rfl) ?_)) (fun _ h => h)
          · skip
            have h1p := of_decide_eq_false h1
            refine RW.guardF rfl rfl rfl h1 ?_
            refine RW.guardF rfl rfl rfl h1 ?_
            refine RW.guardF rfl rfl rfl h1 ?_
            refine RW.guardF rfl rfl rfl h1 ?_
            refine RW.guardF rfl rfl rfl h1 ?_
            refine RW.pickC rfl rfl h1 rfl ?_
            refine RW.nil (EX.seq ?_)
            -- mq: cond
            refine CW.condF rfl (rfl) ?_
            refine CW.skip ?_
            -- mq: joinend
            exact EX.jn (Sub.cons (congrArg (fun b => some (Value.bool b)) (by cases rest <;> simp [nextPairs, pairs, h1p])) (by repeat (first | exact Sub.nil | refine Sub.cons (by rfl) ?_))) (fun _ h => h)
        · skip
          have hlast : ((out.length : Int) = (n : Int) - 1) ↔ rest = [] := by
            constructor
            · intro h; exact List.eq_nil_of_length_eq_zero (by omega)
            · intro h; subst h; simp at hl1; omega
          refine EX.seq (CW.seq ?_)
          -- mq: region
          refine CW.join ([(8, .bool (stays x rest)), (4, .bool (nextPairs x rest)), (0, .slice A n c), (3, v), (5, .int .i64 (out.length : Int)), (6, .pointer (some ⟨g6, 0, none⟩))]) (SH w [] [blk g6 x.enc 37, own 37 8 v out.length (ECell.all out)]) ?_ ?_
          · skip
            refine CW.region ?_
            refine RW.move rfl rfl ?_
            refine RW.move rfl rfl ?_
            -- mq: guard slot 64
            refine RW.casesB 64 rfl (fun h1 => ?_) (fun h1 => ?_)
            · skip
              refine RW.guardF rfl rfl rfl h1 ?_
              refine RW.guardF rfl rfl rfl h1 ?_
              refine RW.guardF rfl rfl rfl h1 ?_
              refine RW.pickB rfl rfl h1 rfl ?_
              refine RW.move rfl rfl ?_
              refine RW.guardF rfl rfl rfl rfl ?_
              refine RW.guardF rfl rfl rfl rfl ?_
              refine RW.guardF rfl rfl rfl rfl ?_
              refine RW.guardF rfl rfl rfl rfl ?_
              refine RW.guardU rfl rfl rfl ?_
              refine RW.guardU rfl rfl rfl ?_
              refine RW.guardU rfl rfl rfl ?_
              refine RW.guardU rfl rfl rfl ?_
              refine RW.guardU rfl rfl rfl ?_
              refine RW.guardF rfl rfl rfl rfl ?_
              refine RW.pickB rfl rfl rfl rfl ?_
              refine RW.assign rfl rfl ?_
              refine RW.nil ?_
              -- mq: joinend
              exact EX.jn (Sub.cons (congrArg (fun b => some (Value.bool b)) (by simp [stays, h1])) (by repeat (first | exact Sub.nil | refine Sub.cons (by rfl) ?_))) (fun _ h => h)
            · skip
              refine RW.guardT rfl rfl h1 ?_
              refine RW.fieldB fl37x2 rfl rfl ?_
              refine RW.guardT rfl rfl h1 ?_
              refine RW.loadB1 sc3 rfl rfl (by first | exact Has.head | exact Has.tail Has.head | exact Has.tail (Has.tail Has.head) | exact Has.tail (Has.tail (Has.tail Has.head)) | exact Has.tail (Has.tail (Has.tail (Has.tail Has.head))) | exact Has.tail (Has.tail (Has.tail (Has.tail (Has.tail Has.head)))) | exact Has.tail (Has.tail (Has.tail (Has.tail (Has.tail (Has.tail Has.head)))))) rfl ?_
              refine RW.guardT rfl rfl h1 ?_
              refine RW.eqlI rfl rfl rfl ?_
              refine RW.pickC rfl rfl h1 rfl ?_
              refine RW.move rfl rfl ?_
              -- mq: guard slot 69
              refine RW.casesB 69 rfl (fun h2 => ?_) (fun h2 => ?_)
              · skip
                have h2p := of_decide_eq_true h2
                refine RW.guardF rfl rfl rfl h2 ?_
                refine RW.guardF rfl rfl rfl h2 ?_
                refine RW.guardF rfl rfl rfl h2 ?_
                refine RW.guardF rfl rfl rfl h2 ?_
                refine RW.guardU rfl rfl rfl ?_
                refine RW.guardU rfl rfl rfl ?_
                refine RW.guardU rfl rfl rfl ?_
                refine RW.guardU rfl rfl rfl ?_
                refine RW.guardU rfl rfl rfl ?_
                refine RW.guardF rfl rfl rfl h2 ?_
                refine RW.pickB rfl rfl h2 rfl ?_
                refine RW.assign rfl rfl ?_
                refine RW.nil ?_
                -- mq: joinend
                exact EX.jn (Sub.cons (congrArg (fun b => some (Value.bool b)) (by simp [stays, h1, h2p])) (by repeat (first | exact Sub.nil | refine Sub.cons (by rfl) ?_))) (fun _ h => h)
              · skip
                have h2p := of_decide_eq_false h2
                refine RW.guardT rfl rfl h2 ?_
                refine RW.fieldB fl37x2 rfl rfl ?_
                refine RW.guardT rfl rfl h2 ?_
                refine RW.loadB1 sc3 rfl rfl (by first | exact Has.head | exact Has.tail Has.head | exact Has.tail (Has.tail Has.head) | exact Has.tail (Has.tail (Has.tail Has.head)) | exact Has.tail (Has.tail (Has.tail (Has.tail Has.head))) | exact Has.tail (Has.tail (Has.tail (Has.tail (Has.tail Has.head)))) | exact Has.tail (Has.tail (Has.tail (Has.tail (Has.tail (Has.tail Has.head)))))) rfl ?_
                refine RW.guardT rfl rfl h2 ?_
                refine RW.eqlI rfl rfl rfl ?_
                refine RW.guardT rfl rfl h2 ?_
                refine RW.move rfl rfl ?_
                -- mq: guard slot 73
                refine RW.casesB 73 rfl (fun h3 => ?_) (fun h3 => ?_)
                · skip
                  have h3p := of_decide_eq_true h3
                  refine RW.guardT rfl rfl h3 ?_
                  refine RW.move rfl rfl ?_
                  refine RW.guardT rfl rfl h3 ?_
                  refine RW.move rfl rfl ?_
                  refine RW.guardT rfl rfl h3 ?_
                  refine RW.lenSl Try.underlying29 rfl rfl ?_
                  refine RW.guardT rfl rfl h3 ?_
                  refine RW.sub_ rfl rfl rfl (wrap64 (by omega) (by omega)) ?_
                  refine RW.guardT rfl rfl h3 ?_
                  refine RW.eqlI rfl rfl rfl ?_
                  refine RW.guardT rfl rfl h2 ?_
                  refine RW.pickB rfl rfl h3 rfl ?_
                  refine RW.pickC rfl rfl h2 rfl ?_
                  refine RW.assign rfl rfl ?_
                  refine RW.nil ?_
                  -- mq: joinend
                  exact EX.jn (Sub.cons (congrArg (fun b => some (Value.bool b)) (by rw [stays, h1, decide_eq_false h2p, decide_eq_true h3p, Bool.false_or, Bool.false_or, Bool.true_and]; exact decide_eq_decide.2 hlast)) (by repeat (first | exact Sub.nil | refine Sub.cons (by rfl) ?_))) (fun _ h => h)
                · skip
                  have h3p := of_decide_eq_false h3
                  refine RW.guardF rfl rfl rfl h3 ?_
                  refine RW.guardF rfl rfl rfl h3 ?_
                  refine RW.guardF rfl rfl rfl h3 ?_
                  refine RW.guardF rfl rfl rfl h3 ?_
                  refine RW.guardF rfl rfl rfl h3 ?_
                  refine RW.guardT rfl rfl h2 ?_
                  refine RW.pickC rfl rfl h3 rfl ?_
                  refine RW.pickC rfl rfl h2 rfl ?_
                  refine RW.assign rfl rfl ?_
                  refine RW.nil ?_
                  -- mq: joinend
                  exact EX.jn (Sub.cons (congrArg (fun b => some (Value.bool b)) (by simp [stays, h1, h2p, h3p])) (by repeat (first | exact Sub.nil | refine Sub.cons (by rfl) ?_))) (fun _ h => h)
          · skip
            refine EX.seq (CW.seq ?_)
            -- mq: seq
            refine CW.join ([(4, .bool (nextPairs x rest)), (0, .slice A n c), (3, v), (5, .int .i64 (out.length : Int)), (6, .pointer (some ⟨g6, 0, none⟩))]) (SH w [] [blk g6 (stepC x rest).enc 37, own 37 8 v out.length (ECell.all out)]) ?_ ?_
            · skip
              refine CW.seq (CW.region ?_)
              refine RW.move rfl rfl ?_
              refine RW.not_ rfl rfl ?_
              refine RW.nil (EX.seq ?_)
              -- mq: cond
              first | refine CW.condD rfl (fun hs => ?_) (fun hs => ?_) | refine CW.cond rfl (fun hs => ?_) (fun hs => ?_)
              · skip
                refine CW.region ?_
                refine RW.fieldB fl37x3 rfl rfl ?_
                refine RW.loadBA ag35 rfl rfl (by first | exact Has.head | exact Has.tail Has.head | exact Has.tail (Has.tail Has.head) | exact Has.tail (Has.tail (Has.tail Has.head)) | exact Has.tail (Has.tail (Has.tail (Has.tail Has.head))) | exact Has.tail (Has.tail (Has.tail (Has.tail (Has.tail Has.head)))) | exact Has.tail (Has.tail (Has.tail (Has.tail (Has.tail (Has.tail Has.head)))))) rfl rfl ?_
                refine RW.buildS bu37 rfl rfl rfl ?_
                refine RW.storeA ag37 rfl rfl (by first | exact Upd.head | exact Upd.tail Upd.head | exact Upd.tail (Upd.tail Upd.head) | exact Upd.tail (Upd.tail (Upd.tail Upd.head)) | exact Upd.tail (Upd.tail (Upd.tail (Upd.tail Upd.head))) | exact Upd.tail (Upd.tail (Upd.tail (Upd.tail (Upd.tail Upd.head)))) | exact Upd.tail (Upd.tail (Upd.tail (Upd.tail (Upd.tail (Upd.tail Upd.head)))))) (by first | rfl | exact Enc.len _ _) (by repeat (first | exact Ones.nil | exact Enc.ones _ _ | refine Ones.cons rfl ?_)) (by first | exact Nat.le_of_ble_eq_true rfl | (simp only [Enc.len]; decide)) ?_
                refine RW.nil ?_
                -- mq: joinend
                refine EX.jn (by repeat (first | exact Sub.nil | refine Sub.cons (by rfl) ?_)) (fun w' hw' => ?_)
                rw [stepC, if_neg (by simpa using hs)]
                exact hw'
              · skip
                refine CW.skip ?_
                -- mq: joinend
                refine EX.jn (by repeat (first | exact Sub.nil | refine Sub.cons (by rfl) ?_)) (fun w' hw' => ?_)
                rw [stepC, if_pos (by simpa using hs)]
                exact hw'
            · skip
              refine EX.seq (CW.region ?_)
              refine RW.move rfl rfl ?_
              refine RW.loadBA ag37 rfl rfl (by first | exact Has.head | exact Has.tail Has.head | exact Has.tail (Has.tail Has.head) | exact Has.tail (Has.tail (Has.tail Has.head)) | exact Has.tail (Has.tail (Has.tail (Has.tail Has.head))) | exact Has.tail (Has.tail (Has.tail (Has.tail (Has.tail Has.head)))) | exact Has.tail (Has.tail (Has.tail (Has.tail (Has.tail (Has.tail Has.head)))))) rfl rfl ?_
              refine RW.buildSlc sl29 rfl rfl rfl rfl (fun g88 hg88 hf88 => ?_)
              refine RW.append1 sl29 rfl rfl rfl (by first | exact Rem.head | exact Rem.tail Rem.head | exact Rem.tail (Rem.tail Rem.head) | exact Rem.tail (Rem.tail (Rem.tail Rem.head)) | exact Rem.tail (Rem.tail (Rem.tail (Rem.tail Rem.head))) | exact Rem.tail (Rem.tail (Rem.tail (Rem.tail (Rem.tail Rem.head)))) | exact Rem.tail (Rem.tail (Rem.tail (Rem.tail (Rem.tail (Rem.tail Rem.head)))))) (fun _ => by first | exact Upd.head | exact Upd.tail Upd.head | exact Upd.tail (Upd.tail Upd.head) | exact Upd.tail (Upd.tail (Upd.tail Upd.head)) | exact Upd.tail (Upd.tail (Upd.tail (Upd.tail Upd.head))) | exact Upd.tail (Upd.tail (Upd.tail (Upd.tail (Upd.tail Upd.head)))) | exact Upd.tail (Upd.tail (Upd.tail (Upd.tail (Upd.tail (Upd.tail Upd.head)))))) rfl (by repeat (first | exact Ones.nil | exact Enc.ones _ _ | refine Ones.cons rfl ?_)) (by simp only [maxLen]; omega) (by omega) (fun v89 hv89 => ?_)
              refine RW.assign rfl rfl ?_
              refine RW.nil (EX.bkN (EX.seq (CW.region ?_)))
              refine RW.move rfl rfl ?_
              refine RW.add rfl rfl rfl (wrap64 (by omega) (by omega)) ?_
              refine RW.assign rfl rfl ?_
              refine RW.nil ?_
              -- mq: loopend
              refine EX.lpN (v89, out ++ [stepC x rest], nextPairs x rest, rest) ⟨by simp; omega, by rw [hrest]; simp, by rw [hm]; simp [mendState, mend_step], fun h e => by subst e; simp [nextPairs] at h, fun g hg => by
                rcases hv89 g hg with h | h
                · exact hv g h
                · exact h.1⟩ (by simp) (Sub.cons (by rfl) (Sub.cons (by rfl) (Sub.cons (by rfl) (Sub.cons (by simp [look]) Sub.nil)))) (fun w' hw' => ?_)
              rw [List.length_append, Enc.all_snoc]
              exact hw'.rem Rem.head
    · skip
      refine CW.exit (EX.seqE (EX.lpE (EX.bkE (EX.seq (CW.seq (CW.region ?_))))))
      refine RW.move rfl rfl ?_
      refine RW.assign rfl rfl ?_
      refine RW.nil (EX.seq (CW.ret ?_))
      refine EX.fin1 Try.results12 rfl (fun wz hw => ?_)
      -- mq: done
      have hr0 : rest = [] := List.eq_nil_of_length_eq_zero (by omega)
      subst hr0
      have hpd0 : pd = false := by cases pd <;> simp_all
      subst hpd0
      have hout : mendL row = out := by rw [hm]; simp [mendState, mendL]
      rw [hout]
      exact RetSl.of_own hw.ext (hw.has Has.head) rfl hv
end Go.Proofs.Ytjmmikdbhhomiaa.Mq

namespace Go.Proofs.Ytjmmikdbhhomiaa.Mq
open Go Go.RowKit Go.Proofs

theorem RdRows.cap' {w : World} {F : Nat → Prop} {A : Option Addr} {n c : Nat} {rows : List RowL} (h : RdRows w F A n c rows) : n ≤ c ∧ c ≤ maxLen := by
  obtain ⟨rs, h1, _⟩ := h.prf
  exact ⟨h1.cap, h1.max⟩

/-- the first row of the line that a row is in -/
def lineL (rows : List RowL) : Nat → Nat
  | 0 => 0
  | i + 1 => if (rows[i + 1]?.map (·.2)) = some true then lineL rows i else i + 1
theorem lineL_le (rows : List RowL) (i : Nat) : lineL rows i ≤ i := by
  induction i with
  | zero => exact Nat.le_refl _
  | succ i ih => rw [lineL]; split <;> omega
theorem Great_c (w : World) (F : Nat → Prop) (A : Option Addr) (n c : Nat) (rows : List RowL) (hr : RdRows w F A n c rows) (hn : n ≤ 140737488351232) (hsm : ∀ row ∈ rows, row.1.length ≤ 140737488351232) :
    Calls Try.prog 10 [.slice A n c].toArray w (fun e w' => e = .returned (.bool (decide (600 < n + sumLen rows))) ∧ Ext [] w w') := by
  have hl := hr.len
  refine calls (n := 27) Try.func10 rfl Try.ntmps10 rfl ?_
  refine CW.sub (H' := SH w [] []) ?_ (Sub.refl _) (fun x hx => SH.start' _ _ hx)
  refine CW.seq (CW.region ?_)
  refine RW.assign rfl rfl ?_
  refine RW.nil (EX.seq (CW.seq (CW.region ?_)))
  refine RW.move rfl rfl ?_
  refine RW.lenSl Try.underlying22 rfl rfl ?_
  refine RW.assign rfl rfl ?_
  refine RW.nil (EX.seq (CW.seq (CW.seq (CW.region ?_))))
  refine RW.assign rfl rfl ?_
  refine RW.nil (EX.seq (CW.block ?_))
  -- mq: loop
  refine CW.loop (ι := Nat) (fun k => [(0, .slice A n c), (3, .int .i64 ((n + sumLen (rows.take k) : Nat) : Int)), (4, .int .i64 (k : Int))]) (fun _ => SH w [] []) (fun k => k ≤ n ∧ n + sumLen (rows.take k) ≤ 200000000000000) (fun k => n - k) ?_ ?_
  · exact fun w hw => ⟨0, ⟨Nat.zero_le _, by simp [sumLen]; omega⟩, Sub.cons (by rfl) (Sub.cons (by rfl) (Sub.cons (by rfl) Sub.nil)), hw⟩
  · rintro k ⟨hk, hb⟩
    have hs0 := sumLen_take_le rows k
    refine CW.seq (CW.seq (CW.region ?_))
    refine RW.move rfl rfl ?_
    refine RW.move rfl rfl ?_
    refine RW.lenSl Try.underlying22 rfl rfl ?_
    refine RW.lss rfl rfl rfl ?_
    refine RW.move rfl rfl ?_
    -- mq: guard slot 11
    refine RW.casesB 11 rfl (fun h0 => ?_) (fun h0 => ?_)
    · skip
      have h0p := of_decide_eq_true h0
      refine RW.guardT rfl rfl h0 ?_
      refine RW.move rfl rfl ?_
      refine RW.guardT rfl rfl h0 ?_
      refine RW.leq rfl rfl rfl ?_
      refine RW.pickB rfl rfl h0 rfl ?_
      refine RW.nil (EX.seq ?_)
      -- mq: cond
      obtain ⟨row, hrow⟩ : ∃ row, rows[k]? = some row := ⟨rows[k]'(by omega), List.getElem?_eq_getElem _⟩
      obtain ⟨ad, B, m, d, hA, _, hcell, hrd⟩ := hr.at_ hrow
      have hm := hrd.len
      have h2 : sumLen (rows.take (k + 1)) = sumLen (rows.take k) + m := by rw [take_snoc' hrow]; simp [sumLen, hm]
      have h3 := hsm row (List.mem_of_getElem? hrow)
      first | refine CW.condD rfl (fun hc => ?_) (fun hc => ?_) | refine CW.cond rfl (fun hc => ?_) (fun hc => ?_)
      · skip
        refine CW.skip (EX.seq (CW.seq (CW.block (CW.region ?_))))
        refine RW.move rfl rfl ?_
        refine RW.move rfl rfl ?_
        refine RW.move rfl rfl ?_
        refine RW.ixAddr (q := k) sl22 rfl rfl rfl (by first | rfl | assumption) (by omega) (by omega) ?_
        refine RW.fieldP fl31x0 rfl rfl ?_
        refine RW.load1 sc29 rfl rfl (fun w' hw' => hw'.base_cell (hcell 0 _ rfl) (by simp)) ?_
        refine RW.lenSl Try.underlying29 rfl rfl ?_
        refine RW.add rfl rfl rfl (wrap64 (by omega) (by omega)) ?_
        refine RW.assign rfl rfl ?_
        refine RW.nil (EX.bkN (EX.seq (CW.region ?_)))
        refine RW.move rfl rfl ?_
        refine RW.add rfl rfl rfl (wrap64 (by omega) (by omega)) ?_
        refine RW.assign rfl rfl ?_
        refine RW.nil ?_
        -- mq: loopend
        refine EX.lpN (k + 1) ⟨by omega, by omega⟩ (by omega) (Sub.cons (by rfl) (Sub.cons (by rw [h2]; simp [look]; omega) (Sub.cons (by rfl) Sub.nil))) (fun w' hw' => hw')
      · skip
        refine CW.exit (EX.seqE (EX.lpE (EX.bkE (EX.seq (CW.seq (CW.region ?_))))))
        refine RW.move rfl rfl ?_
        refine RW.gtr rfl rfl rfl ?_
        refine RW.assign rfl rfl ?_
        refine RW.nil (EX.seq (CW.ret ?_))
        refine EX.fin1 Try.results10 rfl (fun wz hw => ?_)
        -- mq: done
        refine ⟨?_, hw.ext⟩
        have := sumLen_take_le rows k
        rw [decide_eq_decide.2]
        constructor <;> intro <;> omega
    · skip
      have h0p := of_decide_eq_false h0
      refine RW.guardF rfl rfl rfl h0 ?_
      refine RW.guardF rfl rfl rfl h0 ?_
      refine RW.pickC rfl rfl h0 rfl ?_
      refine RW.nil (EX.seq ?_)
      -- mq: cond
      refine CW.condF rfl (rfl) ?_
      refine CW.exit (EX.seqE (EX.lpE (EX.bkE (EX.seq (CW.seq (CW.region ?_))))))
      refine RW.move rfl rfl ?_
      refine RW.gtr rfl rfl rfl ?_
      refine RW.assign rfl rfl ?_
      refine RW.nil (EX.seq (CW.ret ?_))
      refine EX.fin1 Try.results10 rfl (fun wz hw => ?_)
      -- mq: done
      refine ⟨?_, hw.ext⟩
      have hkn : k = n := by omega
      rw [hkn, List.take_of_length_le (by omega)]
      rw [decide_eq_decide.2]
      constructor <;> intro <;> omega
end Go.Proofs.Ytjmmikdbhhomiaa.Mq

namespace Go.Proofs.Ytjmmikdbhhomiaa.Mq
open Go Go.RowKit Go.Proofs

def NoPad (l : List CellV) : Prop := ∀ c ∈ l, c.half ≠ 3
theorem mendL_cons0 {c : CellV} {l : List CellV} (h : c.half = 0) : mendL (c :: l) = c :: mendL l := by
  cases l <;> simp [mendL, h]
theorem mendL_zeros (k : Nat) : mendL (List.replicate k zeroC) = List.replicate k zeroC := by
  induction k with
  | zero => rfl
  | succ k ih => rw [List.replicate_succ, mendL_cons0 rfl, ih]
theorem mendL_mend_zeros (p : List CellV) (hp : NoPad p) (k : Nat) : mendL (mendL p ++ List.replicate k zeroC) = mendL p ++ List.replicate k zeroC := by
  induction p using mendL.induct with
  | case1 => simp [mendL, mendL_zeros]
  | case2 c =>
    have h3 : c.half ≠ 3 := hp c (by simp)
    by_cases h0 : c.half = 0
    · simp only [mendL, h0, true_or, if_true, List.singleton_append]
      rw [mendL_cons0 h0, mendL_zeros]
    · simp only [mendL, h0, h3, or_self, if_false, List.singleton_append]
      rw [mendL_cons0 rfl, mendL_zeros]
  | case3 c d l h ih =>
    simp only [mendL, h, if_true, List.cons_append]
    rw [mendL_cons0 h, ih (fun x hx => hp x (List.mem_cons_of_mem _ hx))]
  | case4 c d l h hpr ih =>
    simp only [mendL, h, hpr, if_true, if_false, List.cons_append]
    rw [ih (fun x hx => hp x (List.mem_cons_of_mem _ (List.mem_cons_of_mem _ hx)))]
  | case5 c d l h hpr ih =>
    rw [mendL, if_neg h, if_neg hpr, List.cons_append]
    rw [mendL_cons0 (c := emptyC c.at_) rfl, ih (fun x hx => hp x (List.mem_cons_of_mem _ hx))]
theorem noPad_mend (p : List CellV) (hp : NoPad p) : NoPad (mendL p) := by
  induction p using mendL.induct with
  | case1 => simpa [mendL] using hp
  | case2 c =>
    have h3 : c.half ≠ 3 := hp c (by simp)
    intro x hx
    simp only [mendL, List.mem_singleton] at hx
    subst hx
    split
    · exact h3
    · simp [emptyC]
  | case3 c d l h ih =>
    intro x hx
    simp only [mendL, h, if_true, List.mem_cons] at hx
    rcases hx with rfl | hx
    · rw [h]; decide
    · exact ih (fun y hy => hp y (List.mem_cons_of_mem _ hy)) x hx
  | case4 c d l h hpr ih =>
    intro x hx
    simp only [mendL, h, hpr, if_true, if_false, List.mem_cons] at hx
    rcases hx with rfl | rfl | hx
    · exact hp _ (by simp)
    · exact hp _ (by simp)
    · exact ih (fun y hy => hp y (List.mem_cons_of_mem _ (List.mem_cons_of_mem _ hy))) x hx
  | case5 c d l h hpr ih =>
    intro x hx
    rw [mendL, if_neg h, if_neg hpr, List.mem_cons] at hx
    rcases hx with hx | hx
    · rw [hx]; simp [emptyC]
    · exact ih (fun y hy => hp y (List.mem_cons_of_mem _ hy)) x hx
theorem usedL_zeros (m : List CellV) (k : Nat) : usedL (m ++ List.replicate k zeroC) = usedL m := by
  induction k with
  | zero => simp
  | succ k ih => rw [List.replicate_succ', ← List.append_assoc, usedL_snoc, if_pos (show zeroC.r = 0 from rfl), ih]
theorem trimL_zeros (m : List CellV) (k : Nat) : trimL (m ++ List.replicate k zeroC) = trimL m := by
  unfold trimL
  rw [usedL_zeros, List.take_append_of_le_length (usedL_le m)]
theorem map_unpad_noPad (p : List CellV) (hp : NoPad p) : p.map unpad = p := by
  induction p with
  | nil => rfl
  | cons c l ih =>
    have h3 : c.half ≠ 3 := hp c (by simp)
    rw [List.map_cons, ih (fun x hx => hp x (by simp [hx])), unpad, if_neg h3]
theorem noPad_unpad (p : List CellV) : NoPad (p.map unpad) := by
  intro c hc
  obtain ⟨d, _, rfl⟩ := List.mem_map.1 hc
  unfold unpad
  split
  · simp [emptyC]
  · assumption
theorem noPad_filter (p : List CellV) (hp : NoPad p) : p.filter (fun c => decide (c.half ≠ 3)) = p := by
  rw [List.filter_eq_self]
  intro c hc
  simpa using hp c hc
theorem rowOf_length (left : List CellV) (cols : Nat) : (rowOf left cols).length = cols := by
  have h := takeF_le left cols
  unfold rowOf
  split <;> simp [List.length_take] <;> omega
theorem splitAux_length : ∀ (f : Nat) (left : List CellV) (cols : Nat) (cont : Bool), 2 ≤ cols → (splitAux f left cols cont).length ≤ left.length + 1
  | 0, _, _, _, _ => by simp [splitAux]
  | f + 1, left, cols, cont, hc => by
    rw [splitAux]
    split
    · simp
    · rename_i hr
      have h1 := splitAux_length f (restOf left cols) cols true hc
      have hl : left ≠ [] := fun e => hr (by rw [restOf, e]; simp)
      have h2 := takeF_pos left cols hc hl
      have h3 := restOf_length left cols
      have h4 := takeF_le left cols
      simp only [List.length_cons]
      omega
theorem splitAux_sum : ∀ (f : Nat) (left : List CellV) (cols : Nat) (cont : Bool), sumLen (splitAux f left cols cont) = (splitAux f left cols cont).length * cols
  | 0, _, _, _ => by simp [splitAux, sumLen]
  | f + 1, left, cols, cont => by
    have h1 := splitAux_sum f (restOf left cols) cols true
    have hc : ∀ (r : RowL) (rs : List RowL), sumLen (r :: rs) = r.1.length + sumLen rs := fun r rs => by simp [sumLen]
    rw [splitAux]
    split
    · simp [sumLen, rowOf_length]
    · rw [hc, h1, List.length_cons, rowOf_length, Nat.add_mul, Nat.one_mul, Nat.add_comm]
theorem splitF_sum (l : List CellV) (cols : Nat) (hc : 2 ≤ cols) (hc2 : cols ≤ 1000) (hl : l.length ≤ 400) : (splitF l cols).length ≤ 401 ∧ sumLen (splitF l cols) ≤ 401000 := by
  have h1 := splitAux_length (l.length + 1) (plainF l) cols false hc
  rw [plainF_length] at h1
  refine ⟨by unfold splitF; omega, ?_⟩
  rw [splitF, splitAux_sum]
  calc _ ≤ 401 * 1000 := Nat.mul_le_mul (by omega) hc2
    _ = 401000 := rfl
theorem rowOf_cells_end (left : List CellV) (cols : Nat) (hp : NoPad left) (hr : restOf left cols = []) : ∃ k, (rowOf left cols).filter (fun c => decide (c.half ≠ 3)) = left ++ List.replicate k zeroC := by
  have ht : left.take (takeF left cols) = left := by
    have := List.take_append_drop (takeF left cols) left
    rw [show left.drop (takeF left cols) = [] from hr, List.append_nil] at this
    exact this
  refine ⟨cols - takeF left cols, ?_⟩
  rw [rowOf, if_neg (by simp [hr]), ht, List.filter_append, noPad_filter _ hp, noPad_filter]
  intro c hc
  rw [List.mem_replicate] at hc
  rw [hc.2]
  decide
theorem rowOf_cells (left : List CellV) (cols : Nat) (hp : NoPad left) (hr : restOf left cols ≠ []) : (rowOf left cols).filter (fun c => decide (c.half ≠ 3)) = left.take (takeF left cols) := by
  have htp : NoPad (left.take (takeF left cols)) := fun c hc => hp c (List.mem_of_mem_take hc)
  have hle := takeF_le left cols
  have htl : (left.take (takeF left cols)).length = takeF left cols := by simp [List.length_take]; omega
  have hcases : takeF left cols = cols - 1 ∨ takeF left cols = cols := by
    unfold restOf at hr
    unfold takeF at hr ⊢
    by_cases h : left.length < cols
    · rw [if_pos h] at hr; simp at hr
    · rw [if_neg h]; split <;> simp
  by_cases h1 : takeF left cols = cols - 1 ∧ restOf left cols ≠ []
  · rw [rowOf, if_pos h1]
    by_cases hz : cols - takeF left cols = 0
    · rw [hz, List.replicate_zero, List.append_nil, List.set_eq_of_length_le (by omega), noPad_filter _ htp]
    · obtain ⟨k, hk⟩ : ∃ k, cols - takeF left cols = k + 1 := ⟨cols - takeF left cols - 1, by omega⟩
      have hk0 : k = 0 := by omega
      subst hk0
      rw [hk, List.set_append_right _ _ (by omega), htl, Nat.sub_self, List.filter_append, noPad_filter _ htp]
      simp [padC, List.replicate]
  · rcases hcases with h | h
    · exact absurd ⟨h, hr⟩ h1
    · rw [rowOf, if_neg h1, h, Nat.sub_self, List.replicate_zero, List.append_nil, ← h, noPad_filter _ htp]
theorem cellsOf_splitAux : ∀ (f : Nat) (left : List CellV) (cols : Nat) (cont : Bool), 2 ≤ cols → NoPad left → left.length < f → ∃ k, cellsOf (splitAux f left cols cont) = left ++ List.replicate k zeroC
  | 0, _, _, _, _, _, h => absurd h (by omega)
  | f + 1, left, cols, cont, hc, hp, hf => by
    have hcons : ∀ (r : RowL) (rs : List RowL), cellsOf (r :: rs) = r.1.filter (fun c => decide (c.half ≠ 3)) ++ cellsOf rs := fun r rs => by simp [cellsOf]
    rw [splitAux, hcons]
    by_cases hr : restOf left cols = []
    · rw [if_pos hr]
      obtain ⟨k, hk⟩ := rowOf_cells_end left cols hp hr
      exact ⟨k, by rw [hk]; simp [cellsOf]⟩
    · rw [if_neg hr]
      have hl : left ≠ [] := fun e => hr (by rw [restOf, e]; simp)
      have h2 := takeF_pos left cols hc hl
      have h3 := restOf_length left cols
      have h4 := takeF_le left cols
      obtain ⟨k, hk⟩ := cellsOf_splitAux f (restOf left cols) cols true hc (fun c hcm => hp c (List.mem_of_mem_drop hcm)) (by omega)
      refine ⟨k, ?_⟩
      rw [hk, rowOf_cells left cols hp hr, ← List.append_assoc, restOf, List.take_append_drop]
theorem flow_splitF (l : List CellV) (cols : Nat) (hc : 2 ≤ cols) : flowF (splitF l cols) = trimL (plainF l) := by
  obtain ⟨k, hk⟩ := cellsOf_splitAux (l.length + 1) (plainF l) cols false hc (noPad_mend _ (noPad_unpad l)) (by rw [plainF_length]; omega)
  rw [flowF, splitF, hk, plainF, mendL_mend_zeros _ (noPad_unpad l), trimL_zeros]
theorem back_law (p : List CellV) (cols : Nat) (hc : 2 ≤ cols) (hp : NoPad p) : flowF (splitF p cols) = trimL (mendL p) := by
  rw [flow_splitF p cols hc, plainF, map_unpad_noPad p hp]
end Go.Proofs.Ytjmmikdbhhomiaa.Mq

namespace Go.Proofs.Ytjmmikdbhhomiaa.Mq
open Go Go.RowKit Go.Proofs

/-- the current row ahead of a cell: a Pad where it must -/
def padB (cols : Nat) (cur : List CellV) (x : CellV) : List CellV := if cur.length = cols - 1 ∧ x.half = 1 then cur ++ [padC] else cur
def goR (cols : Nat) : List RowL → List CellV → List CellV → List RowL
  | dn, cur, [] => dn ++ [(cur ++ List.replicate (cols - cur.length) zeroC, decide (dn ≠ []))]
  | dn, cur, x :: l => if (padB cols cur x).length = cols then goR cols (dn ++ [(padB cols cur x, decide (dn ≠ []))]) [x] l else goR cols dn (padB cols cur x ++ [x]) l
theorem takeF_cases (left : List CellV) (cols : Nat) (h : takeF left cols < left.length) : cols ≤ left.length ∧ ((takeF left cols = cols - 1 ∧ (left[cols - 1]?.map (·.half)) = some 1) ∨ (takeF left cols = cols ∧ (left[cols - 1]?.map (·.half)) ≠ some 1)) := by
  unfold takeF at h ⊢
  by_cases h1 : left.length < cols
  · rw [if_pos h1] at h; omega
  · rw [if_neg h1]
    refine ⟨by omega, ?_⟩
    by_cases h2 : (left[cols - 1]?.map (·.half)) = some 1
    · rw [if_pos h2]; exact .inl ⟨rfl, h2⟩
    · rw [if_neg h2]; exact .inr ⟨rfl, h2⟩
theorem goR_split (cols : Nat) (hc : 2 ≤ cols) : ∀ (l : List CellV) (left : List CellV) (j : Nat) (dn : List RowL) (f : Nat), l = left.drop j → j ≤ takeF left cols → left.length < f →
    goR cols dn (left.take j) l = dn ++ splitAux f left cols (decide (dn ≠ []))
  | [], left, j, dn, f, hl, hj, hf => by
    obtain ⟨f, rfl⟩ : ∃ f', f = f' + 1 := ⟨f - 1, by omega⟩
    have hjl : left.length ≤ j := List.drop_eq_nil_iff.1 hl.symm
    have htl := takeF_le left cols
    have hr : restOf left cols = [] := by unfold restOf; exact List.drop_eq_nil_of_le (by omega)
    have ht : takeF left cols = left.length := by omega
    rw [goR, splitAux, if_pos hr, rowOf, if_neg (by simp [hr]), ht, List.take_of_length_le hjl, List.take_of_length_le (Nat.le_refl _)]
  | x :: l, left, j, dn, f, hl, hj, hf => by
    obtain ⟨f, rfl⟩ : ∃ f', f = f' + 1 := ⟨f - 1, by omega⟩
    have hjl : j < left.length := by
      have := congrArg List.length hl
      simp at this
      omega
    have hx : left[j]? = some x := by
      have := congrArg (fun l => l[0]?) hl
      simpa using this.symm
    have hdr : l = left.drop (j + 1) := by
      have := congrArg List.tail hl
      simpa using this
    have htl := takeF_le left cols
    have hlen : (left.take j).length = j := by simp; omega
    by_cases hjt : j < takeF left cols
    · have hnp : padB cols (left.take j) x = left.take j := by
        unfold padB
        rw [if_neg]
        rintro ⟨h1, h2⟩
        rw [hlen] at h1
        have h3 : takeF left cols = cols - 1 := by
          unfold takeF
          rw [if_neg (by omega), if_pos]
          rw [← h1, hx]
          simp [h2]
        omega
      rw [goR, hnp, if_neg (by omega), ← take_snoc' hx]
      exact goR_split cols hc l left (j + 1) dn (f + 1) hdr (by omega) hf
    · have hjt : j = takeF left cols := by omega
      subst hjt
      obtain ⟨hcl, hcase⟩ := takeF_cases left cols hjl
      have hrne : restOf left cols ≠ [] := by
        unfold restOf
        intro e
        rw [List.drop_eq_nil_iff] at e
        omega
      have htp := takeF_pos left cols hc (fun e => by subst e; simp at hjl)
      have hrow : padB cols (left.take (takeF left cols)) x = rowOf left cols ∧ (padB cols (left.take (takeF left cols)) x).length = cols := by
        rcases hcase with ⟨h1, h2⟩ | ⟨h1, h2⟩
        · have hxh : x.half = 1 := by
            rw [← h1, hx] at h2
            simpa using h2
          unfold padB
          rw [if_pos ⟨by omega, hxh⟩, rowOf, if_pos ⟨h1, hrne⟩]
          rw [show cols - takeF left cols = 0 + 1 by omega, List.replicate_succ, List.replicate_zero, List.set_append_right _ _ (by omega), hlen, Nat.sub_self]
          exact ⟨rfl, by simp; omega⟩
        · unfold padB
          rw [if_neg (by rintro ⟨h3, _⟩; omega), rowOf, if_neg (by rintro ⟨h3, _⟩; omega)]
          rw [show cols - takeF left cols = 0 by omega, List.replicate_zero, List.append_nil]
          exact ⟨rfl, by omega⟩
      rw [goR, if_pos hrow.2, hrow.1, splitAux, if_neg hrne]
      have hrx : [x] = (restOf left cols).take 1 := by
        unfold restOf
        rw [← hl]
        rfl
      have hrd : l = (restOf left cols).drop 1 := by
        unfold restOf
        rw [← hl]
        rfl
      have hrl := restOf_length left cols
      rw [hrx, goR_split cols hc l (restOf left cols) 1 (dn ++ [(rowOf left cols, decide (dn ≠ []))]) f hrd (takeF_pos _ cols hc hrne) (by omega)]
      simp
theorem goR_splitF (l : List CellV) (cols : Nat) (hc : 2 ≤ cols) : goR cols [] [] (plainF l) = splitF l cols := by
  have := goR_split cols hc (plainF l) (plainF l) 0 [] (l.length + 1) rfl (Nat.zero_le _) (by rw [plainF_length]; omega)
  rw [List.take_zero] at this
  rw [this]
  rfl
end Go.Proofs.Ytjmmikdbhhomiaa.Mq

namespace Go.Proofs.Ytjmmikdbhhomiaa.Mq
open Go Go.RowKit Go.Proofs

def linesStep (out : List (Int × Int)) (i : Int) (c : Bool) : List (Int × Int) :=
  match out.getLast? with
  | some p => if c then out.dropLast ++ [(p.1, i + 1)] else out ++ [(i, i + 1)]
  | none => [(i, i + 1)]
theorem lines_c (w : World) (F : Nat → Prop) (A : Option Addr) (n c : Nat) (rs : List RowV) (f : Nat → List (Int × Int)) (hr : Rd ERow w F A n c rs) (hn : n ≤ 100000)
    (h0 : f 0 = []) (hf : ∀ k r, rs[k]? = some r → f (k + 1) = linesStep (f k) k r.cont) (hfl : ∀ k, k ≤ n → (f k).length ≤ k) :
    Calls Try.prog 6 [.slice A n c].toArray w (RetSl EPair w (f n)) := by
  refine calls (n := 38) Try.func6 rfl Try.ntmps6 rfl ?_
  refine CW.sub (H' := SH w [] []) ?_ (Sub.refl _) (fun x hx => SH.start' _ _ hx)
  refine CW.ownNil 28 2 ?_
  refine CW.seq (CW.region ?_)
  refine RW.assign rfl rfl ?_
  refine RW.nil (EX.seq (CW.seq (CW.region ?_)))
  refine RW.assign rfl rfl ?_
  refine RW.nil (EX.seq (CW.seq (CW.seq (CW.region ?_))))
  refine RW.move rfl rfl ?_
  refine RW.lenSl Try.underlying22 rfl rfl ?_
  refine RW.move rfl rfl ?_
  refine RW.nil (EX.seq (CW.block ?_))
  -- mq: loop
  refine CW.loop (ι := Nat × Value × List (Int × Int)) (fun i => [(3, i.2.1), (7, .slice A n c), (8, .int .i64 (n : Int)), (9, .int .i64 (i.1 : Int))]) (fun i => SH w [] [own 28 2 i.2.1 i.2.2.length (EPair.all i.2.2)]) (fun i => i.1 ≤ n ∧ i.2.2 = f i.1 ∧ ∀ g, i.2.1.ownBlock = some g → w.heap.size ≤ g) (fun i => n - i.1) ?_ ?_
  · exact fun w hw => ⟨(0, .slice none 0 0, []), ⟨Nat.zero_le _, h0.symm, by simp [Value.ownBlock]⟩, (by repeat (first | exact Sub.nil | refine Sub.cons rfl ?_)), hw⟩
  · rintro ⟨k, v, L⟩ ⟨hk, hL, hv0⟩
    dsimp only at hk hL hv0 ⊢
    refine CW.seq (CW.region ?_)
    refine RW.lss rfl rfl rfl ?_
    refine RW.nil (EX.seq (CW.seq ?_))
    -- mq: cond
    first | refine CW.condD rfl (fun hlt => ?_) (fun hlt => ?_) | refine CW.cond rfl (fun hlt => ?_) (fun hlt => ?_)
    · skip
      have hlt' : k < n := by omega
      obtain ⟨r, hrk⟩ : ∃ r, rs[k]? = some r := ⟨rs[k]'(by rw [hr.len]; exact hlt'), List.getElem?_eq_getElem _⟩
      obtain ⟨ad, hA, hF, hcell⟩ := hr.cells (by omega)
      have hLl : L.length ≤ k := hL ▸ hfl k hk
      refine CW.formOwn (v := v) Has.head (fun Ao co hv hcap hmax hlen hg => ?_)
      subst hv
      refine CW.skip (EX.seq (CW.seq (CW.block (CW.seq (CW.region ?_)))))
      refine RW.move rfl rfl ?_
      refine RW.ixAddr sl22 rfl rfl rfl (by first | rfl | assumption) (by rfl) (by omega) ?_
      refine RW.loadA ag31 rfl rfl ((ERow.len r)) (fun w' hw' j u hj => hw'.base_cell (hcell k r j u hrk hj) (by simp)) ?_
      refine RW.allocA ag31 rfl (fun g5 hg5 hf5 => ?_)
      refine RW.assign rfl rfl ?_
      refine RW.storeA ag31 rfl rfl (by first | exact Upd.head | exact Upd.tail Upd.head | exact Upd.tail (Upd.tail Upd.head) | exact Upd.tail (Upd.tail (Upd.tail Upd.head)) | exact Upd.tail (Upd.tail (Upd.tail (Upd.tail Upd.head))) | exact Upd.tail (Upd.tail (Upd.tail (Upd.tail (Upd.tail Upd.head)))) | exact Upd.tail (Upd.tail (Upd.tail (Upd.tail (Upd.tail (Upd.tail Upd.head)))))) (by first | rfl | exact Enc.len _ _) (by repeat (first | exact Ones.nil | exact Enc.ones _ _ | refine Ones.cons rfl ?_)) (by first | exact Nat.le_of_ble_eq_true rfl | (simp only [Enc.len]; decide)) ?_
      refine RW.nil (EX.seq (CW.seq (CW.seq (CW.region ?_))))
      refine RW.move rfl rfl ?_
      refine RW.lenSl Try.underlying26 rfl rfl ?_
      refine RW.assign rfl rfl ?_
      refine RW.nil (EX.seq (CW.seq (CW.region ?_)))
      refine RW.move rfl rfl ?_
      refine RW.gtr rfl rfl rfl ?_
      refine RW.move rfl rfl ?_
      -- mq: guard slot 18
      have Hstep := hf k r hrk
      refine RW.casesB 18 rfl (fun hb => ?_) (fun hb => ?_)
      · skip
        have hbp := of_decide_eq_true hb
        refine RW.guardT rfl rfl hb ?_
        refine RW.fieldB fl31x1 rfl rfl ?_
        refine RW.guardT rfl rfl hb ?_
        refine RW.loadB1 sc4 rfl rfl (by first | exact Has.head | exact Has.tail Has.head | exact Has.tail (Has.tail Has.head) | exact Has.tail (Has.tail (Has.tail Has.head)) | exact Has.tail (Has.tail (Has.tail (Has.tail Has.head))) | exact Has.tail (Has.tail (Has.tail (Has.tail (Has.tail Has.head)))) | exact Has.tail (Has.tail (Has.tail (Has.tail (Has.tail (Has.tail Has.head)))))) rfl ?_
        refine RW.pickB rfl rfl hb rfl ?_
        refine RW.nil (EX.seq ?_)
        -- mq: cond
        first | refine CW.condD rfl (fun hc => ?_) (fun hc => ?_) | refine CW.cond rfl (fun hc => ?_) (fun hc => ?_)
        · skip
          obtain ⟨g, rfl⟩ := hg (by omega)
          obtain ⟨p, hp⟩ : ∃ p, L[L.length - 1]? = some p := ⟨L[L.length - 1]'(by omega), List.getElem?_eq_getElem _⟩
          have hset := EPair.all_set (j := 1) (a' := (p.1, (k : Int) + 1)) (v := .int .i64 ((k : Int) + 1)) hp (by decide) rfl
          have hst : linesStep L k r.cont = L.set (L.length - 1) (p.1, (k : Int) + 1) := by
            rw [List.getElem?_eq_getElem (by omega)] at hp
            simp only [Option.some.injEq] at hp
            have hne : L ≠ [] := fun e => by subst e; simp at hbp
            have hlast : L.getLast? = some p := by rw [List.getLast?_eq_some_getLast hne, List.getLast_eq_getElem, hp]
            simp only [linesStep, hlast, hc, if_true]
            rw [List.set_eq_take_append_cons_drop, if_pos (by omega), List.dropLast_eq_take, show L.length - 1 + 1 = L.length by omega, List.drop_length]
          refine CW.seq (CW.region ?_)
          refine RW.move rfl rfl ?_
          refine RW.move rfl rfl ?_
          refine RW.sub_ rfl rfl rfl (wrap64 (by omega) (by omega)) ?_
          refine RW.move rfl rfl ?_
          refine RW.add rfl rfl rfl (wrap64 (by omega) (by omega)) ?_
          refine RW.ixAddr (q := (L.length - 1)) sl26 rfl rfl rfl (by first | rfl | assumption) (by omega) (by omega) ?_
          refine RW.ixArr (q := 1) Try.underlying28 ar28 rfl rfl rfl (by omega) (by omega) ?_
          -- mq: op 7: ('Op.store', '3', ('Operand.tmp', '28'), ('Operand.tmp', '26')) -> slot None ("flow.go:19")
          refine RW.storeOwn1 (o := (L.length - 1) * 2 + 1) sc3 rfl rfl (by exact Upd.tail Upd.head) (by simp [Addr.add_lit]) rfl (by rw [EPair.all_length]; show _ < L.length * 2; omega) ?_
          refine RW.nil (EX.seq (CW.exit (EX.seqE (EX.bkE (EX.seq (CW.region ?_))))))
          refine RW.add rfl rfl rfl (wrap64 (by omega) (by omega)) ?_
          refine RW.move rfl rfl ?_
          refine RW.nil ?_
          -- mq: loopend
          refine EX.lpN (k + 1, _, L.set (L.length - 1) (p.1, (k : Int) + 1)) ⟨by omega, by rw [Hstep, ← hL, hst], hv0⟩ (by omega) (by repeat (first | exact Sub.nil | refine Sub.cons (by rfl) ?_)) (fun w' hw' => ?_)
          have := hw'.rem Rem.head
          rw [show (L.length - 1) * 2 + 1 = (L.length - 1) * EPair.sz + 1 from rfl, hset] at this
          simpa using this
        · skip
          have hst : linesStep L k r.cont = L ++ [((k : Int), (k : Int) + 1)] := by
            have hne : L ≠ [] := fun e => by subst e; simp at hbp
            simp only [linesStep, List.getLast?_eq_some_getLast hne, hc]
            rfl
          refine CW.skip (EX.seq (CW.region ?_))
          refine RW.move rfl rfl ?_
          refine RW.move rfl rfl ?_
          refine RW.move rfl rfl ?_
          refine RW.add rfl rfl rfl (wrap64 (by omega) (by omega)) ?_
          refine RW.buildR ba28 rfl rfl rfl ?_
          refine RW.buildSlc sl26 rfl rfl rfl rfl (fun g34 hg34 hf34 => ?_)
          refine RW.append1 sl26 rfl rfl rfl (by first | exact Rem.head | exact Rem.tail Rem.head | exact Rem.tail (Rem.tail Rem.head) | exact Rem.tail (Rem.tail (Rem.tail Rem.head)) | exact Rem.tail (Rem.tail (Rem.tail (Rem.tail Rem.head))) | exact Rem.tail (Rem.tail (Rem.tail (Rem.tail (Rem.tail Rem.head)))) | exact Rem.tail (Rem.tail (Rem.tail (Rem.tail (Rem.tail (Rem.tail Rem.head)))))) (fun _ => by first | exact Upd.head | exact Upd.tail Upd.head | exact Upd.tail (Upd.tail Upd.head) | exact Upd.tail (Upd.tail (Upd.tail Upd.head)) | exact Upd.tail (Upd.tail (Upd.tail (Upd.tail Upd.head))) | exact Upd.tail (Upd.tail (Upd.tail (Upd.tail (Upd.tail Upd.head)))) | exact Upd.tail (Upd.tail (Upd.tail (Upd.tail (Upd.tail (Upd.tail Upd.head)))))) rfl (by repeat (first | exact Ones.nil | exact Enc.ones _ _ | refine Ones.cons rfl ?_)) (by simp only [maxLen]; omega) (by omega) (fun v35 hv35 => ?_)
          refine RW.assign rfl rfl ?_
          refine RW.nil (EX.bkN (EX.seq (CW.region ?_)))
          refine RW.add rfl rfl rfl (wrap64 (by omega) (by omega)) ?_
          refine RW.move rfl rfl ?_
          refine RW.nil ?_
          -- mq: loopend
          refine EX.lpN (k + 1, v35, L ++ [((k : Int), (k : Int) + 1)]) ⟨by omega, by rw [Hstep, ← hL, hst], fun g hg => by
            rcases hv35 g hg with h | h
            · exact hv0 g h
            · exact h.1⟩ (by omega) (by repeat (first | exact Sub.nil | refine Sub.cons (by rfl) ?_)) (fun w' hw' => ?_)
          have := hw'.rem Rem.head
          rw [List.length_append, Enc.all_snoc]
          exact this
      · skip
        have hbp := of_decide_eq_false hb
        refine RW.guardF rfl rfl rfl hb ?_
        refine RW.guardF rfl rfl rfl hb ?_
        refine RW.pickC rfl rfl hb rfl ?_
        refine RW.nil (EX.seq ?_)
        -- mq: cond
        first | refine CW.condD rfl (fun hc => ?_) (fun hc => ?_) | refine CW.cond rfl (fun hc => ?_) (fun hc => ?_)
        · skip
          exact absurd hc (by decide)
        · skip
          have hst : linesStep L k r.cont = L ++ [((k : Int), (k : Int) + 1)] := by
            have hne : L = [] := List.eq_nil_of_length_eq_zero (by omega)
            subst hne
            rfl
          refine CW.skip (EX.seq (CW.region ?_))
          refine RW.move rfl rfl ?_
          refine RW.move rfl rfl ?_
          refine RW.move rfl rfl ?_
          refine RW.add rfl rfl rfl (wrap64 (by omega) (by omega)) ?_
          refine RW.buildR ba28 rfl rfl rfl ?_
          refine RW.buildSlc sl26 rfl rfl rfl rfl (fun g34 hg34 hf34 => ?_)
          refine RW.append1 sl26 rfl rfl rfl (by first | exact Rem.head | exact Rem.tail Rem.head | exact Rem.tail (Rem.tail Rem.head) | exact Rem.tail (Rem.tail (Rem.tail Rem.head)) | exact Rem.tail (Rem.tail (Rem.tail (Rem.tail Rem.head))) | exact Rem.tail (Rem.tail (Rem.tail (Rem.tail (Rem.tail Rem.head)))) | exact Rem.tail (Rem.tail (Rem.tail (Rem.tail (Rem.tail (Rem.tail Rem.head)))))) (fun _ => by first | exact Upd.head | exact Upd.tail Upd.head | exact Upd.tail (Upd.tail Upd.head) | exact Upd.tail (Upd.tail (Upd.tail Upd.head)) | exact Upd.tail (Upd.tail (Upd.tail (Upd.tail Upd.head))) | exact Upd.tail (Upd.tail (Upd.tail (Upd.tail (Upd.tail Upd.head)))) | exact Upd.tail (Upd.tail (Upd.tail (Upd.tail (Upd.tail (Upd.tail Upd.head)))))) rfl (by repeat (first | exact Ones.nil | exact Enc.ones _ _ | refine Ones.cons rfl ?_)) (by simp only [maxLen]; omega) (by omega) (fun v35 hv35 => ?_)
          refine RW.assign rfl rfl ?_
          refine RW.nil (EX.bkN (EX.seq (CW.region ?_)))
          refine RW.add rfl rfl rfl (wrap64 (by omega) (by omega)) ?_
          refine RW.move rfl rfl ?_
          refine RW.nil ?_
          -- mq: loopend
          refine EX.lpN (k + 1, v35, L ++ [((k : Int), (k : Int) + 1)]) ⟨by omega, by rw [Hstep, ← hL, hst], fun g hg => by
            rcases hv35 g hg with h | h
            · exact hv0 g h
            · exact h.1⟩ (by omega) (by repeat (first | exact Sub.nil | refine Sub.cons (by rfl) ?_)) (fun w' hw' => ?_)
          have := hw'.rem Rem.head
          rw [List.length_append, Enc.all_snoc]
          exact this
    · skip
      refine CW.exit (EX.seqE (EX.lpE (EX.bkE (EX.seq (CW.seq (CW.region ?_))))))
      refine RW.move rfl rfl ?_
      refine RW.assign rfl rfl ?_
      refine RW.nil (EX.seq (CW.ret ?_))
      refine EX.fin1 Try.results6 rfl (fun wz hw => ?_)
      -- mq: done
      have hkn : k = n := by omega
      subst hkn
      rw [← hL]
      exact RetSl.of_own hw.ext (hw.has Has.head) rfl hv0
def contAt (rows : List RowL) (k : Nat) : Bool := (rows[k]?.map (·.2)).getD false
def linesL (rows : List RowL) : Nat → List (Int × Int)
  | 0 => []
  | k + 1 => linesStep (linesL rows k) k (contAt rows k)
theorem linesStep_length (L : List (Int × Int)) (i : Int) (c : Bool) : (linesStep L i c).length ≤ L.length + 1 := by
  unfold linesStep
  split
  · split <;> simp
  · simp
theorem linesL_length (rows : List RowL) (k : Nat) : (linesL rows k).length ≤ k := by
  induction k with
  | zero => simp [linesL]
  | succ k ih =>
    have := linesStep_length (linesL rows k) k (contAt rows k)
    rw [linesL]
    omega
theorem Lines_c (w : World) (F : Nat → Prop) (A : Option Addr) (n c : Nat) (rows : List RowL) (hr : RdRows w F A n c rows) (hn : n ≤ 100000) :
    Calls Try.prog 6 [.slice A n c].toArray w (RetSl EPair w (linesL rows n)) := by
  obtain ⟨rs, h1, h2, _⟩ := hr.prf
  refine lines_c w F A n c rs (linesL rows) h1 hn rfl (fun k r hk => ?_) (fun k _ => linesL_length rows k)
  have : contAt rows k = r.cont := by
    have := congrArg (fun l => l[k]?) h2
    simp only [List.getElem?_map, hk, Option.map_some] at this
    unfold contAt
    rw [← this]
    rfl
  rw [linesL, this]
/- the law: one line behind the other -/
def good (rows : List RowL) (a e : Nat) : Prop := ∀ k, a ≤ k → k < e → lineL rows k = a
def chainL (rows : List RowL) : Nat → List (Int × Int) → Nat → Prop
  | a, [], b => a = b
  | a, p :: L, b => ∃ e : Nat, p = ((a : Int), (e : Int)) ∧ a < e ∧ good rows a e ∧ contAt rows e = false ∧ chainL rows e L b
theorem chain_snoc {rows : List RowL} {s e : Nat} (hse : s < e) (hg : good rows s e) (hc : contAt rows e = false) : ∀ (M : List (Int × Int)) (a : Nat), chainL rows a M s → chainL rows a (M ++ [((s : Int), (e : Int))]) e
  | [], a, h => by
    have h : a = s := h
    subst h
    exact ⟨e, rfl, hse, hg, hc, rfl⟩
  | p :: M, a, h => by
    obtain ⟨e', h1, h2, h3, h4, h5⟩ := h
    exact ⟨e', h1, h2, h3, h4, chain_snoc hse hg hc M e' h5⟩
theorem chain_le {rows : List RowL} : ∀ (M : List (Int × Int)) (a b : Nat), chainL rows a M b → a ≤ b
  | [], a, b, h => Nat.le_of_eq h
  | p :: M, a, b, h => by
    obtain ⟨e', _, h2, _, _, h5⟩ := h
    have := chain_le M e' b h5
    omega
def chainE (rows : List RowL) (n : Nat) (a : Nat) (L : List (Int × Int)) : Prop := (L = [] ∧ a = n) ∨ ∃ (M : List (Int × Int)) (s : Nat), L = M ++ [((s : Int), (n : Int))] ∧ s < n ∧ good rows s n ∧ chainL rows a M s
theorem lineL_succ {rows : List RowL} (k : Nat) : lineL rows k = if k = 0 then 0 else if contAt rows k = true then lineL rows (k - 1) else k := by
  cases k with
  | zero => rfl
  | succ k =>
    rw [lineL, contAt]
    cases h : rows[k + 1]? <;> simp
theorem linesL_chain (rows : List RowL) (k : Nat) : chainE rows k 0 (linesL rows k) := by
  induction k with
  | zero => exact .inl ⟨rfl, rfl⟩
  | succ k ih =>
    rw [linesL]
    rcases ih with ⟨h1, h2⟩ | ⟨M, s, h1, h2, h3, h4⟩
    · subst h2
      rw [h1]
      refine .inr ⟨[], 0, rfl, by omega, fun j h1 h2 => ?_, rfl⟩
      have : j = 0 := by omega
      subst this
      rfl
    · rw [h1]
      simp only [linesStep, List.getLast?_append, List.getLast?_singleton, Option.some_or, List.dropLast_concat]
      by_cases hc : contAt rows k = true
      · rw [if_pos hc]
        refine .inr ⟨M, s, rfl, by omega, fun j hj1 hj2 => ?_, h4⟩
        by_cases hjk : j = k
        · subst hjk
          rw [lineL_succ, if_neg (by omega), if_pos hc]
          exact h3 _ (by omega) (by omega)
        · exact h3 j hj1 (by omega)
      · rw [if_neg hc]
        refine .inr ⟨M ++ [((s : Int), (k : Int))], k, rfl, by omega, fun j hj1 hj2 => ?_, chain_snoc h2 h3 (by simpa using hc) M 0 h4⟩
        have : j = k := by omega
        subst this
        rw [lineL_succ, if_neg (by omega), if_neg hc]
theorem chainE_step {rows : List RowL} {n a : Nat} {p : Int × Int} {L : List (Int × Int)} (h : chainE rows n a (p :: L)) : ∃ e : Nat, p = ((a : Int), (e : Int)) ∧ a < e ∧ e ≤ n ∧ good rows a e ∧ (e < n → contAt rows e = false) ∧ chainE rows n e L := by
  rcases h with ⟨h, _⟩ | ⟨M, s, h1, h2, h3, h4⟩
  · cases h
  · cases M with
    | nil =>
      have h4 : a = s := h4
      subst h4
      simp only [List.nil_append, List.cons.injEq] at h1
      obtain ⟨rfl, rfl⟩ := h1
      exact ⟨n, rfl, h2, Nat.le_refl _, h3, fun h => absurd h (by omega), .inl ⟨rfl, rfl⟩⟩
    | cons q M =>
      simp only [List.cons_append, List.cons.injEq] at h1
      obtain ⟨rfl, rfl⟩ := h1
      obtain ⟨e, g1, g2, g3, g4, g5⟩ := h4
      have := chain_le M e s g5
      exact ⟨e, g1, g2, by omega, g3, fun _ => g4, .inr ⟨M, s, rfl, h2, h3, g5⟩⟩
end Go.Proofs.Ytjmmikdbhhomiaa.Mq
