/- text: Less, within, size, last -/
import Derived.Test.YtjmmikdbhhomiaaTxA
namespace Go.Proofs.Ytjmmikdbhhomiaa.Mq
open Go Go.RowKit Go.Proofs

def ordF (a b : PosV) : Int := if a = b then 0 else if lessP a b = true then -1 else 1
theorem ordF_less (a b : PosV) : decide (ordF a b < 0) = lessP a b := by
  unfold ordF
  by_cases h : a = b
  · rw [if_pos h]
    subst h
    unfold lessP
    simp
  · rw [if_neg h]
    by_cases h2 : lessP a b = true
    · rw [if_pos h2, h2]; rfl
    · rw [if_neg h2]
      rw [Bool.not_eq_true] at h2
      rw [h2]; rfl
theorem order_c (w : World) (a b : PosV) :
    Calls Try.prog 46 [.agg a.enc.toArray, .agg b.enc.toArray].toArray w (fun e w' => e = .returned (.int .i64 (ordF a b)) ∧ Ext [] w w') := by
  refine calls (n := 29) Try.func46 rfl Try.ntmps46 rfl ?_
  refine CW.sub (H' := SH w [] []) ?_ (Sub.refl _) (fun x hx => SH.start' _ _ hx)
  refine CW.seq (CW.region ?_)
  refine RW.boxA rfl rfl (fun g2 hg2 hf2 => ?_)
  refine RW.boxA rfl rfl (fun g3 hg3 hf3 => ?_)
  refine RW.assign rfl rfl ?_
  refine RW.nil (EX.seq (CW.seq (CW.block (CW.seq ?_))))
  -- mq: region
  refine CW.region ?_
  refine RW.loadBA ag44 rfl rfl (by first | exact Has.head | exact Has.tail Has.head | exact Has.tail (Has.tail Has.head) | exact Has.tail (Has.tail (Has.tail Has.head)) | exact Has.tail (Has.tail (Has.tail (Has.tail Has.head))) | exact Has.tail (Has.tail (Has.tail (Has.tail (Has.tail Has.head)))) | exact Has.tail (Has.tail (Has.tail (Has.tail (Has.tail (Has.tail Has.head)))))) rfl rfl ?_
  refine RW.loadBA ag44 rfl rfl (by first | exact Has.head | exact Has.tail Has.head | exact Has.tail (Has.tail Has.head) | exact Has.tail (Has.tail (Has.tail Has.head)) | exact Has.tail (Has.tail (Has.tail (Has.tail Has.head))) | exact Has.tail (Has.tail (Has.tail (Has.tail (Has.tail Has.head)))) | exact Has.tail (Has.tail (Has.tail (Has.tail (Has.tail (Has.tail Has.head)))))) rfl rfl ?_
  refine RW.eqlSt eq44 rfl rfl rfl (by kernel_rfl) (eqv_pos a b) ?_
  refine RW.assign rfl rfl ?_
  refine RW.nil (EX.seq ?_)
  -- mq: cond
  first | refine CW.condD rfl (fun h0 => ?_) (fun h0 => ?_) | refine CW.cond rfl (fun h0 => ?_) (fun h0 => ?_)
  · skip
    have hab : a = b := h0
    refine CW.seq (CW.region ?_)
    refine RW.assign rfl rfl ?_
    refine RW.nil (EX.seq (CW.ret (EX.bkR (EX.seqR ?_))))
    refine EX.fin1 Try.results46 rfl (fun wz hw => ?_)
    -- mq: done
    exact ⟨by unfold ordF; rw [if_pos hab], hw.ext⟩
  · skip
    have hab : a ≠ b := h0
    refine CW.seq (CW.region ?_)
    refine RW.fieldB fl44x0 rfl rfl ?_
    refine RW.loadB1 sc3 rfl rfl (by first | exact Has.head | exact Has.tail Has.head | exact Has.tail (Has.tail Has.head) | exact Has.tail (Has.tail (Has.tail Has.head)) | exact Has.tail (Has.tail (Has.tail (Has.tail Has.head))) | exact Has.tail (Has.tail (Has.tail (Has.tail (Has.tail Has.head)))) | exact Has.tail (Has.tail (Has.tail (Has.tail (Has.tail (Has.tail Has.head)))))) rfl ?_
    refine RW.fieldB fl44x0 rfl rfl ?_
    refine RW.loadB1 sc3 rfl rfl (by first | exact Has.head | exact Has.tail Has.head | exact Has.tail (Has.tail Has.head) | exact Has.tail (Has.tail (Has.tail Has.head)) | exact Has.tail (Has.tail (Has.tail (Has.tail Has.head))) | exact Has.tail (Has.tail (Has.tail (Has.tail (Has.tail Has.head)))) | exact Has.tail (Has.tail (Has.tail (Has.tail (Has.tail (Has.tail Has.head)))))) rfl ?_
    refine RW.lss rfl rfl rfl ?_
    refine RW.move rfl rfl ?_
    -- mq: guard slot 15
    refine RW.casesB 15 rfl (fun h1 => ?_) (fun h1 => ?_)
    · skip
      refine RW.guardF rfl rfl rfl h1 ?_
      refine RW.guardF rfl rfl rfl h1 ?_
      refine RW.guardF rfl rfl rfl h1 ?_
      refine RW.guardF rfl rfl rfl h1 ?_
      refine RW.guardF rfl rfl rfl h1 ?_
      refine RW.guardF rfl rfl rfl h1 ?_
      refine RW.guardU rfl rfl rfl ?_
      refine RW.guardU rfl rfl rfl ?_
      refine RW.guardU rfl rfl rfl ?_
      refine RW.guardU rfl rfl rfl ?_
      refine RW.guardU rfl rfl rfl ?_
      refine RW.guardF rfl rfl rfl h1 ?_
      refine RW.pickB rfl rfl h1 rfl ?_
      refine RW.assign rfl rfl ?_
      refine RW.nil (EX.seq ?_)
      -- mq: cond
      refine CW.condT rfl (rfl) ?_
      refine CW.seq (CW.region ?_)
      refine RW.assign rfl rfl ?_
      refine RW.nil (EX.seq (CW.ret (EX.bkR (EX.seqR ?_))))
      refine EX.fin1 Try.results46 rfl (fun wz hw => ?_)
      -- mq: done
      exact ⟨by unfold ordF lessP; rw [if_neg hab, if_pos (decide_eq_true (Or.inl (of_decide_eq_true h1)))], hw.ext⟩
    · skip
      refine RW.guardT rfl rfl h1 ?_
      refine RW.fieldB fl44x0 rfl rfl ?_
      refine RW.guardT rfl rfl h1 ?_
      refine RW.loadB1 sc3 rfl rfl (by first | exact Has.head | exact Has.tail Has.head | exact Has.tail (Has.tail Has.head) | exact Has.tail (Has.tail (Has.tail Has.head)) | exact Has.tail (Has.tail (Has.tail (Has.tail Has.head))) | exact Has.tail (Has.tail (Has.tail (Has.tail (Has.tail Has.head)))) | exact Has.tail (Has.tail (Has.tail (Has.tail (Has.tail (Has.tail Has.head)))))) rfl ?_
      refine RW.guardT rfl rfl h1 ?_
      refine RW.fieldB fl44x0 rfl rfl ?_
      refine RW.guardT rfl rfl h1 ?_
      refine RW.loadB1 sc3 rfl rfl (by first | exact Has.head | exact Has.tail Has.head | exact Has.tail (Has.tail Has.head) | exact Has.tail (Has.tail (Has.tail Has.head)) | exact Has.tail (Has.tail (Has.tail (Has.tail Has.head))) | exact Has.tail (Has.tail (Has.tail (Has.tail (Has.tail Has.head)))) | exact Has.tail (Has.tail (Has.tail (Has.tail (Has.tail (Has.tail Has.head)))))) rfl ?_
      refine RW.guardT rfl rfl h1 ?_
      refine RW.eqlI rfl rfl rfl ?_
      refine RW.guardT rfl rfl h1 ?_
      refine RW.move rfl rfl ?_
      -- mq: guard slot 21
      refine RW.casesB 21 rfl (fun h2 => ?_) (fun h2 => ?_)
      · skip
        refine RW.guardT rfl rfl h2 ?_
        refine RW.fieldB fl44x1 rfl rfl ?_
        refine RW.guardT rfl rfl h2 ?_
        refine RW.loadB1 sc3 rfl rfl (by first | exact Has.head | exact Has.tail Has.head | exact Has.tail (Has.tail Has.head) | exact Has.tail (Has.tail (Has.tail Has.head)) | exact Has.tail (Has.tail (Has.tail (Has.tail Has.head))) | exact Has.tail (Has.tail (Has.tail (Has.tail (Has.tail Has.head)))) | exact Has.tail (Has.tail (Has.tail (Has.tail (Has.tail (Has.tail Has.head)))))) rfl ?_
        refine RW.guardT rfl rfl h2 ?_
        refine RW.fieldB fl44x1 rfl rfl ?_
        refine RW.guardT rfl rfl h2 ?_
        refine RW.loadB1 sc3 rfl rfl (by first | exact Has.head | exact Has.tail Has.head | exact Has.tail (Has.tail Has.head) | exact Has.tail (Has.tail (Has.tail Has.head)) | exact Has.tail (Has.tail (Has.tail (Has.tail Has.head))) | exact Has.tail (Has.tail (Has.tail (Has.tail (Has.tail Has.head)))) | exact Has.tail (Has.tail (Has.tail (Has.tail (Has.tail (Has.tail Has.head)))))) rfl ?_
        refine RW.guardT rfl rfl h2 ?_
        refine RW.lss rfl rfl rfl ?_
        refine RW.guardT rfl rfl h1 ?_
        refine RW.pickB rfl rfl h2 rfl ?_
        refine RW.pickC rfl rfl h1 rfl ?_
        refine RW.assign rfl rfl ?_
        refine RW.nil (EX.seq ?_)
        -- mq: cond
        first | refine CW.condD rfl (fun h3 => ?_) (fun h3 => ?_) | refine CW.cond rfl (fun h3 => ?_) (fun h3 => ?_)
        · skip
          refine CW.seq (CW.region ?_)
          refine RW.assign rfl rfl ?_
          refine RW.nil (EX.seq (CW.ret (EX.bkR (EX.seqR ?_))))
          refine EX.fin1 Try.results46 rfl (fun wz hw => ?_)
          -- mq: done
          exact ⟨by unfold ordF lessP; rw [if_neg hab, if_pos (decide_eq_true (Or.inr ⟨of_decide_eq_true h2, h3⟩))], hw.ext⟩
        · skip
          refine CW.skip (EX.bkN (EX.seq (CW.seq (CW.region ?_))))
          refine RW.assign rfl rfl ?_
          refine RW.nil (EX.seq (CW.ret ?_))
          refine EX.fin1 Try.results46 rfl (fun wz hw => ?_)
          -- mq: done
          have hl := of_decide_eq_false h1
          exact ⟨by unfold ordF lessP; rw [if_neg hab, if_neg (by simp; omega)], hw.ext⟩
      · skip
        refine RW.guardF rfl rfl rfl h2 ?_
        refine RW.guardF rfl rfl rfl h2 ?_
        refine RW.guardF rfl rfl rfl h2 ?_
        refine RW.guardF rfl rfl rfl h2 ?_
        refine RW.guardF rfl rfl rfl h2 ?_
        refine RW.guardT rfl rfl h1 ?_
        refine RW.pickC rfl rfl h2 rfl ?_
        refine RW.pickC rfl rfl h1 rfl ?_
        refine RW.assign rfl rfl ?_
        refine RW.nil (EX.seq ?_)
        -- mq: cond
        refine CW.condF rfl (rfl) ?_
        refine CW.skip (EX.bkN (EX.seq (CW.seq (CW.region ?_))))
        refine RW.assign rfl rfl ?_
        refine RW.nil (EX.seq (CW.ret ?_))
        refine EX.fin1 Try.results46 rfl (fun wz hw => ?_)
        -- mq: done
        have hl := of_decide_eq_false h1
        have hl2 := of_decide_eq_false h2
        exact ⟨by unfold ordF lessP; rw [if_neg hab, if_neg (by simp; omega)], hw.ext⟩
theorem Less_c (w : World) (a b : PosV) :
    Calls Try.prog 39 [.agg a.enc.toArray, .agg b.enc.toArray].toArray w (fun e w' => e = .returned (.bool (lessP a b)) ∧ Ext [] w w') := by
  refine calls (n := 9) Try.func39 rfl Try.ntmps39 rfl ?_
  refine CW.sub (H' := SH w [] []) ?_ (Sub.refl _) (fun x hx => SH.start' _ _ hx)
  refine CW.seq (CW.region ?_)
  refine RW.boxA rfl rfl (fun g2 hg2 hf2 => ?_)
  refine RW.boxA rfl rfl (fun g3 hg3 hf3 => ?_)
  refine RW.assign rfl rfl ?_
  refine RW.nil (EX.seq (CW.seq ?_))
  -- mq: region
  refine CW.region ?_
  refine RW.loadBA ag44 rfl rfl (by first | exact Has.head | exact Has.tail Has.head | exact Has.tail (Has.tail Has.head) | exact Has.tail (Has.tail (Has.tail Has.head)) | exact Has.tail (Has.tail (Has.tail (Has.tail Has.head))) | exact Has.tail (Has.tail (Has.tail (Has.tail (Has.tail Has.head)))) | exact Has.tail (Has.tail (Has.tail (Has.tail (Has.tail (Has.tail Has.head)))))) rfl rfl ?_
  refine RW.loadBA ag44 rfl rfl (by first | exact Has.head | exact Has.tail Has.head | exact Has.tail (Has.tail Has.head) | exact Has.tail (Has.tail (Has.tail Has.head)) | exact Has.tail (Has.tail (Has.tail (Has.tail Has.head))) | exact Has.tail (Has.tail (Has.tail (Has.tail (Has.tail Has.head)))) | exact Has.tail (Has.tail (Has.tail (Has.tail (Has.tail (Has.tail Has.head)))))) rfl rfl ?_
  -- mq: at
  refine RW.call rfl ca46 rfl (fun w' _ => order_c w' a b) ?_
  refine RW.lss rfl rfl rfl ?_
  refine RW.assign rfl rfl ?_
  refine RW.nil (EX.seq (CW.ret ?_))
  refine EX.fin1 Try.results39 rfl (fun wz hw => ?_)
  -- mq: done
  exact ⟨by rw [ordF_less], hw.ext⟩
end Go.Proofs.Ytjmmikdbhhomiaa.Mq
