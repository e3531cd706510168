/- attributes: the plain functions of what is right; walks of fine, Right, color, Has, ref.Right -/
import Derived.Test.YtojfodeienchfaaDoorTypes
import Derived.Test.YtojfodeienchfaaDoorVals
import Derived.Test.YtojfodeienchfaaDoorTwo
namespace Go.Proofs.YtojfodeienchfaaDoor.Mq
open Go Go.RowKit Go.Proofs

structure AtV where
  fk : Int
  fn : Int
  bk : Int
  bn : Int
  fl : Int
deriving DecidableEq
def EAt : Enc AtV := ⟨fun a => [.int .i64 a.fk, .int .i64 a.fn, .int .i64 a.bk, .int .i64 a.bn, .int .i64 a.fl], 5, fun _ => rfl, fun _ => by repeat (first | exact Ones.nil | refine Ones.cons rfl ?_)⟩
abbrev atV (a : AtV) : Value := .agg [.int .i64 a.fk, .int .i64 a.fn, .int .i64 a.bk, .int .i64 a.bn, .int .i64 a.fl].toArray
abbrev colV (k n : Int) : Value := .agg [.int .i64 k, .int .i64 n].toArray
def colF (k n : Int) : Bool := decide ((k = 0 ∧ n = 0) ∨ (k = 1 ∧ 0 ≤ n ∧ n < 256) ∨ (k = 2 ∧ 0 ≤ n ∧ n < 16777216))
def hasF (n f : Nat) : Bool := decide (n / f % 2 = 1)
def rightF (a : AtV) : Bool := colF a.fk a.fn && (colF a.bk a.bn && decide (0 ≤ a.fl ∧ a.fl < 1024 ∧ ¬ (hasF a.fl.toNat 8 = true ∧ hasF a.fl.toNat 256 = true)))
theorem fine_c (w : World) (k n : Int) : Calls Tryd.prog 19 [colV k n].toArray w (fun e w' => e = .returned (.bool (colF k n)) ∧ Ext [] w w') := by
  refine calls (n := 30) Tryd.func19 rfl Tryd.ntmps19 rfl ?_
  refine CW.sub (H' := SH w [] []) ?_ (Sub.refl _) (fun x hx => SH.start' _ _ hx)
  refine CW.seq (CW.region ?_)
  refine RW.boxA rfl rfl (fun g1 hg1 hf1 => ?_)
  refine RW.assign rfl rfl ?_
  refine RW.nil (EX.seq (CW.seq (CW.seq (CW.region ?_))))
  refine RW.fieldB fl23x0 rfl rfl ?_
  refine RW.loadB1 sc3 rfl rfl (by first | exact Has.head | exact Has.tail Has.head | exact Has.tail (Has.tail Has.head) | exact Has.tail (Has.tail (Has.tail Has.head)) | exact Has.tail (Has.tail (Has.tail (Has.tail Has.head))) | exact Has.tail (Has.tail (Has.tail (Has.tail (Has.tail Has.head)))) | exact Has.tail (Has.tail (Has.tail (Has.tail (Has.tail (Has.tail Has.head)))))) rfl ?_
  refine RW.nil (EX.seq (CW.block (CW.seq (CW.region ?_))))
  refine RW.eqlI rfl rfl rfl ?_
  refine RW.assign rfl rfl ?_
  refine RW.nil (EX.seq ?_)
  -- mq: cond
  first | refine CW.condD rfl (fun h0 => ?_) (fun h0 => ?_) | refine CW.cond rfl (fun h0 => ?_) (fun h0 => ?_)
  · skip
    refine CW.seq (CW.region ?_)
    refine RW.fieldB fl23x1 rfl rfl ?_
    refine RW.loadB1 sc3 rfl rfl (by first | exact Has.head | exact Has.tail Has.head | exact Has.tail (Has.tail Has.head) | exact Has.tail (Has.tail (Has.tail Has.head)) | exact Has.tail (Has.tail (Has.tail (Has.tail Has.head))) | exact Has.tail (Has.tail (Has.tail (Has.tail (Has.tail Has.head)))) | exact Has.tail (Has.tail (Has.tail (Has.tail (Has.tail (Has.tail Has.head)))))) rfl ?_
    refine RW.eqlI rfl rfl rfl ?_
    refine RW.assign rfl rfl ?_
    refine RW.nil (EX.seq (CW.ret (EX.bkR (EX.seqR ?_))))
    refine EX.fin1 Tryd.results19 rfl (fun wz hw => ?_)
    -- mq: done
    refine ⟨?_, hw.ext⟩
    congr 2
    simp only [colF, decide_eq_decide]; omega
  · skip
    refine CW.seq (CW.region ?_)
    refine RW.eqlI rfl rfl rfl ?_
    refine RW.assign rfl rfl ?_
    refine RW.nil (EX.seq ?_)
    -- mq: cond
    first | refine CW.condD rfl (fun h1 => ?_) (fun h1 => ?_) | refine CW.cond rfl (fun h1 => ?_) (fun h1 => ?_)
    · skip
      refine CW.seq (CW.region ?_)
      refine RW.fieldB fl23x1 rfl rfl ?_
      refine RW.loadB1 sc3 rfl rfl (by first | exact Has.head | exact Has.tail Has.head | exact Has.tail (Has.tail Has.head) | exact Has.tail (Has.tail (Has.tail Has.head)) | exact Has.tail (Has.tail (Has.tail (Has.tail Has.head))) | exact Has.tail (Has.tail (Has.tail (Has.tail (Has.tail Has.head)))) | exact Has.tail (Has.tail (Has.tail (Has.tail (Has.tail (Has.tail Has.head)))))) rfl ?_
      refine RW.geq rfl rfl rfl ?_
      refine RW.move rfl rfl ?_
      -- mq: guard slot 15
      refine RW.casesB 15 rfl (fun h2 => ?_) (fun h2 => ?_)
      · skip
        have h2p := of_decide_eq_true h2
        refine RW.guardT rfl rfl h2 ?_
        refine RW.fieldB fl23x1 rfl rfl ?_
        refine RW.guardT rfl rfl h2 ?_
        refine RW.loadB1 sc3 rfl rfl (by first | exact Has.head | exact Has.tail Has.head | exact Has.tail (Has.tail Has.head) | exact Has.tail (Has.tail (Has.tail Has.head)) | exact Has.tail (Has.tail (Has.tail (Has.tail Has.head))) | exact Has.tail (Has.tail (Has.tail (Has.tail (Has.tail Has.head)))) | exact Has.tail (Has.tail (Has.tail (Has.tail (Has.tail (Has.tail Has.head)))))) rfl ?_
        refine RW.guardT rfl rfl h2 ?_
        refine RW.leq rfl rfl rfl ?_
        refine RW.pickB rfl rfl h2 rfl ?_
        refine RW.assign rfl rfl ?_
        refine RW.nil (EX.seq (CW.ret (EX.bkR (EX.seqR ?_))))
        refine EX.fin1 Tryd.results19 rfl (fun wz hw => ?_)
        -- mq: done
        refine ⟨?_, hw.ext⟩
        congr 2
        simp only [colF, decide_eq_decide]; omega
      · skip
        have h2p := of_decide_eq_false h2
        refine RW.guardF rfl rfl rfl h2 ?_
        refine RW.guardF rfl rfl rfl h2 ?_
        refine RW.guardF rfl rfl rfl h2 ?_
        refine RW.pickC rfl rfl h2 rfl ?_
        refine RW.assign rfl rfl ?_
        refine RW.nil (EX.seq (CW.ret (EX.bkR (EX.seqR ?_))))
        refine EX.fin1 Tryd.results19 rfl (fun wz hw => ?_)
        -- mq: done
        refine ⟨?_, hw.ext⟩
        congr 2
        simp only [colF]; rw [eq_comm, decide_eq_false_iff_not]; omega
    · skip
      refine CW.seq (CW.region ?_)
      refine RW.eqlI rfl rfl rfl ?_
      refine RW.assign rfl rfl ?_
      refine RW.nil (EX.seq ?_)
      -- mq: cond
      first | refine CW.condD rfl (fun h2 => ?_) (fun h2 => ?_) | refine CW.cond rfl (fun h2 => ?_) (fun h2 => ?_)
      · skip
        refine CW.seq (CW.region ?_)
        refine RW.fieldB fl23x1 rfl rfl ?_
        refine RW.loadB1 sc3 rfl rfl (by first | exact Has.head | exact Has.tail Has.head | exact Has.tail (Has.tail Has.head) | exact Has.tail (Has.tail (Has.tail Has.head)) | exact Has.tail (Has.tail (Has.tail (Has.tail Has.head))) | exact Has.tail (Has.tail (Has.tail (Has.tail (Has.tail Has.head)))) | exact Has.tail (Has.tail (Has.tail (Has.tail (Has.tail (Has.tail Has.head)))))) rfl ?_
        refine RW.geq rfl rfl rfl ?_
        refine RW.move rfl rfl ?_
        -- mq: guard slot 25
        refine RW.casesB 25 rfl (fun h3 => ?_) (fun h3 => ?_)
        · skip
          have h3p := of_decide_eq_true h3
          refine RW.guardT rfl rfl h3 ?_
          refine RW.fieldB fl23x1 rfl rfl ?_
          refine RW.guardT rfl rfl h3 ?_
          refine RW.loadB1 sc3 rfl rfl (by first | exact Has.head | exact Has.tail Has.head | exact Has.tail (Has.tail Has.head) | exact Has.tail (Has.tail (Has.tail Has.head)) | exact Has.tail (Has.tail (Has.tail (Has.tail Has.head))) | exact Has.tail (Has.tail (Has.tail (Has.tail (Has.tail Has.head)))) | exact Has.tail (Has.tail (Has.tail (Has.tail (Has.tail (Has.tail Has.head)))))) rfl ?_
          refine RW.guardT rfl rfl h3 ?_
          refine RW.leq rfl rfl rfl ?_
          refine RW.pickB rfl rfl h3 rfl ?_
          refine RW.assign rfl rfl ?_
          refine RW.nil (EX.seq (CW.ret (EX.bkR (EX.seqR ?_))))
          refine EX.fin1 Tryd.results19 rfl (fun wz hw => ?_)
          -- mq: done
          refine ⟨?_, hw.ext⟩
          congr 2
          simp only [colF, decide_eq_decide]; omega
        · skip
          have h3p := of_decide_eq_false h3
          refine RW.guardF rfl rfl rfl h3 ?_
          refine RW.guardF rfl rfl rfl h3 ?_
          refine RW.guardF rfl rfl rfl h3 ?_
          refine RW.pickC rfl rfl h3 rfl ?_
          refine RW.assign rfl rfl ?_
          refine RW.nil (EX.seq (CW.ret (EX.bkR (EX.seqR ?_))))
          refine EX.fin1 Tryd.results19 rfl (fun wz hw => ?_)
          -- mq: done
          refine ⟨?_, hw.ext⟩
          congr 2
          simp only [colF]; rw [eq_comm, decide_eq_false_iff_not]; omega
      · skip
        refine CW.skip (EX.bkN (EX.seq (CW.seq (CW.region ?_))))
        refine RW.assign rfl rfl ?_
        refine RW.nil (EX.seq (CW.ret ?_))
        refine EX.fin1 Tryd.results19 rfl (fun wz hw => ?_)
        -- mq: done
        refine ⟨?_, hw.ext⟩
        congr 2
        simp only [colF]; rw [eq_comm, decide_eq_false_iff_not]; omega
theorem color_c (w : World) (k n : Int) : Calls Tryd.prog 20 [colV k n].toArray w (fun e w' => e = .returned (.bool (colF k n)) ∧ Ext [] w w') := by
  refine calls (n := 41) Tryd.func20 rfl Tryd.ntmps20 rfl ?_
  refine CW.sub (H' := SH w [] []) ?_ (Sub.refl _) (fun x hx => SH.start' _ _ hx)
  refine CW.seq (CW.region ?_)
  refine RW.boxA rfl rfl (fun g1 hg1 hf1 => ?_)
  refine RW.assign rfl rfl ?_
  refine RW.nil (EX.seq (CW.seq (CW.region ?_)))
  refine RW.fieldB fl23x0 rfl rfl ?_
  refine RW.loadB1 sc3 rfl rfl (by first | exact Has.head | exact Has.tail Has.head | exact Has.tail (Has.tail Has.head) | exact Has.tail (Has.tail (Has.tail Has.head)) | exact Has.tail (Has.tail (Has.tail (Has.tail Has.head))) | exact Has.tail (Has.tail (Has.tail (Has.tail (Has.tail Has.head)))) | exact Has.tail (Has.tail (Has.tail (Has.tail (Has.tail (Has.tail Has.head)))))) rfl ?_
  refine RW.eqlI rfl rfl rfl ?_
  refine RW.move rfl rfl ?_
  -- mq: guard slot 6
  refine RW.casesB 6 rfl (fun h1 => ?_) (fun h1 => ?_)
  · skip
    have h1p := of_decide_eq_true h1
    refine RW.guardT rfl rfl h1 ?_
    refine RW.fieldB fl23x1 rfl rfl ?_
    refine RW.guardT rfl rfl h1 ?_
    refine RW.loadB1 sc3 rfl rfl (by first | exact Has.head | exact Has.tail Has.head | exact Has.tail (Has.tail Has.head) | exact Has.tail (Has.tail (Has.tail Has.head)) | exact Has.tail (Has.tail (Has.tail (Has.tail Has.head))) | exact Has.tail (Has.tail (Has.tail (Has.tail (Has.tail Has.head)))) | exact Has.tail (Has.tail (Has.tail (Has.tail (Has.tail (Has.tail Has.head)))))) rfl ?_
    refine RW.guardT rfl rfl h1 ?_
    refine RW.eqlI rfl rfl rfl ?_
    refine RW.pickB rfl rfl h1 rfl ?_
    refine RW.move rfl rfl ?_
    -- mq: guard slot 11
    refine RW.casesB 11 rfl (fun h2 => ?_) (fun h2 => ?_)
    · skip
      have h2p := of_decide_eq_true h2
      refine RW.guardF rfl rfl rfl h2 ?_
      refine RW.guardF rfl rfl rfl h2 ?_
      refine RW.guardF rfl rfl rfl h2 ?_
      refine RW.guardF rfl rfl rfl h2 ?_
      refine RW.guardU rfl rfl rfl ?_
      refine RW.guardU rfl rfl rfl ?_
      refine RW.guardU rfl rfl rfl ?_
      refine RW.guardF rfl rfl rfl h2 ?_
      refine RW.guardF rfl rfl rfl h2 ?_
      refine RW.guardU rfl rfl rfl ?_
      refine RW.guardU rfl rfl rfl ?_
      refine RW.guardU rfl rfl rfl ?_
      refine RW.guardF rfl rfl rfl h2 ?_
      refine RW.pickB rfl rfl h2 rfl ?_
      refine RW.move rfl rfl ?_
      refine RW.guardF rfl rfl rfl rfl ?_
      refine RW.guardF rfl rfl rfl rfl ?_
      refine RW.guardF rfl rfl rfl rfl ?_
      refine RW.guardF rfl rfl rfl rfl ?_
      refine RW.guardU rfl rfl rfl ?_
      refine RW.guardU rfl rfl rfl ?_
      refine RW.guardU rfl rfl rfl ?_
      refine RW.guardF rfl rfl rfl rfl ?_
      refine RW.guardF rfl rfl rfl rfl ?_
      refine RW.guardU rfl rfl rfl ?_
      refine RW.guardU rfl rfl rfl ?_
      refine RW.guardU rfl rfl rfl ?_
      refine RW.guardF rfl rfl rfl rfl ?_
      refine RW.pickB rfl rfl rfl rfl ?_
      refine RW.assign rfl rfl ?_
      refine RW.nil (EX.seq (CW.ret ?_))
      refine EX.fin1 Tryd.results20 rfl (fun wz hw => ?_)
      -- mq: done
      refine ⟨?_, hw.ext⟩
      congr 2
      simp only [colF]
      first | (rw [decide_eq_decide]; omega) | (rw [eq_comm, decide_eq_false_iff_not]; omega) | (rw [eq_comm, decide_eq_true_iff]; omega)
    · skip
      have h2p := of_decide_eq_false h2
      refine RW.guardT rfl rfl h2 ?_
      refine RW.fieldB fl23x0 rfl rfl ?_
      refine RW.guardT rfl rfl h2 ?_
      refine RW.loadB1 sc3 rfl rfl (by first | exact Has.head | exact Has.tail Has.head | exact Has.tail (Has.tail Has.head) | exact Has.tail (Has.tail (Has.tail Has.head)) | exact Has.tail (Has.tail (Has.tail (Has.tail Has.head))) | exact Has.tail (Has.tail (Has.tail (Has.tail (Has.tail Has.head)))) | exact Has.tail (Has.tail (Has.tail (Has.tail (Has.tail (Has.tail Has.head)))))) rfl ?_
      refine RW.guardT rfl rfl h2 ?_
      refine RW.eqlI rfl rfl rfl ?_
      refine RW.guardT rfl rfl h2 ?_
      refine RW.move rfl rfl ?_
      -- mq: guard slot 15
      refine RW.casesB 15 rfl (fun h3 => ?_) (fun h3 => ?_)
      · skip
        have h3p := of_decide_eq_true h3
        refine RW.guardT rfl rfl h3 ?_
        refine RW.fieldB fl23x1 rfl rfl ?_
        refine RW.guardT rfl rfl h3 ?_
        refine RW.loadB1 sc3 rfl rfl (by first | exact Has.head | exact Has.tail Has.head | exact Has.tail (Has.tail Has.head) | exact Has.tail (Has.tail (Has.tail Has.head)) | exact Has.tail (Has.tail (Has.tail (Has.tail Has.head))) | exact Has.tail (Has.tail (Has.tail (Has.tail (Has.tail Has.head)))) | exact Has.tail (Has.tail (Has.tail (Has.tail (Has.tail (Has.tail Has.head)))))) rfl ?_
        refine RW.guardT rfl rfl h3 ?_
        refine RW.geq rfl rfl rfl ?_
        refine RW.guardT rfl rfl h2 ?_
        refine RW.pickB rfl rfl h3 rfl ?_
        refine RW.guardT rfl rfl h2 ?_
        refine RW.move rfl rfl ?_
        -- mq: guard slot 20
        refine RW.casesB 20 rfl (fun h4 => ?_) (fun h4 => ?_)
        · skip
          have h4p := of_decide_eq_true h4
          refine RW.guardT rfl rfl h4 ?_
          refine RW.fieldB fl23x1 rfl rfl ?_
          refine RW.guardT rfl rfl h4 ?_
          refine RW.loadB1 sc3 rfl rfl (by first | exact Has.head | exact Has.tail Has.head | exact Has.tail (Has.tail Has.head) | exact Has.tail (Has.tail (Has.tail Has.head)) | exact Has.tail (Has.tail (Has.tail (Has.tail Has.head))) | exact Has.tail (Has.tail (Has.tail (Has.tail (Has.tail Has.head)))) | exact Has.tail (Has.tail (Has.tail (Has.tail (Has.tail (Has.tail Has.head)))))) rfl ?_
          refine RW.guardT rfl rfl h4 ?_
          refine RW.lss rfl rfl rfl ?_
          refine RW.guardT rfl rfl h2 ?_
          refine RW.pickB rfl rfl h4 rfl ?_
          refine RW.pickC rfl rfl h2 rfl ?_
          refine RW.move rfl rfl ?_
          -- mq: guard slot 26
          refine RW.casesB 26 rfl (fun h5 => ?_) (fun h5 => ?_)
          · skip
            have h5p := of_decide_eq_true h5
            refine RW.guardF rfl rfl rfl h5 ?_
            refine RW.guardF rfl rfl rfl h5 ?_
            refine RW.guardF rfl rfl rfl h5 ?_
            refine RW.guardF rfl rfl rfl h5 ?_
            refine RW.guardU rfl rfl rfl ?_
            refine RW.guardU rfl rfl rfl ?_
            refine RW.guardU rfl rfl rfl ?_
            refine RW.guardF rfl rfl rfl h5 ?_
            refine RW.guardF rfl rfl rfl h5 ?_
            refine RW.guardU rfl rfl rfl ?_
            refine RW.guardU rfl rfl rfl ?_
            refine RW.guardU rfl rfl rfl ?_
            refine RW.guardF rfl rfl rfl h5 ?_
            refine RW.pickB rfl rfl h5 rfl ?_
            refine RW.assign rfl rfl ?_
            refine RW.nil (EX.seq (CW.ret ?_))
            refine EX.fin1 Tryd.results20 rfl (fun wz hw => ?_)
            -- mq: done
            refine ⟨?_, hw.ext⟩
            congr 2
            simp only [colF]
            first | (rw [decide_eq_decide]; omega) | (rw [eq_comm, decide_eq_false_iff_not]; omega) | (rw [eq_comm, decide_eq_true_iff]; omega)
          · skip
            have h5p := of_decide_eq_false h5
            refine RW.guardT rfl rfl h5 ?_
            refine RW.fieldB fl23x0 rfl rfl ?_
            refine RW.guardT rfl rfl h5 ?_
            refine RW.loadB1 sc3 rfl rfl (by first | exact Has.head | exact Has.tail Has.head | exact Has.tail (Has.tail Has.head) | exact Has.tail (Has.tail (Has.tail Has.head)) | exact Has.tail (Has.tail (Has.tail (Has.tail Has.head))) | exact Has.tail (Has.tail (Has.tail (Has.tail (Has.tail Has.head)))) | exact Has.tail (Has.tail (Has.tail (Has.tail (Has.tail (Has.tail Has.head)))))) rfl ?_
            refine RW.guardT rfl rfl h5 ?_
            refine RW.eqlI rfl rfl rfl ?_
            refine RW.guardT rfl rfl h5 ?_
            refine RW.move rfl rfl ?_
            -- mq: guard slot 30
            refine RW.casesB 30 rfl (fun h6 => ?_) (fun h6 => ?_)
            · skip
              have h6p := of_decide_eq_true h6
              refine RW.guardT rfl rfl h6 ?_
              refine RW.fieldB fl23x1 rfl rfl ?_
              refine RW.guardT rfl rfl h6 ?_
              refine RW.loadB1 sc3 rfl rfl (by first | exact Has.head | exact Has.tail Has.head | exact Has.tail (Has.tail Has.head) | exact Has.tail (Has.tail (Has.tail Has.head)) | exact Has.tail (Has.tail (Has.tail (Has.tail Has.head))) | exact Has.tail (Has.tail (Has.tail (Has.tail (Has.tail Has.head)))) | exact Has.tail (Has.tail (Has.tail (Has.tail (Has.tail (Has.tail Has.head)))))) rfl ?_
              refine RW.guardT rfl rfl h6 ?_
              refine RW.geq rfl rfl rfl ?_
              refine RW.guardT rfl rfl h5 ?_
              refine RW.pickB rfl rfl h6 rfl ?_
              refine RW.guardT rfl rfl h5 ?_
              refine RW.move rfl rfl ?_
              -- mq: guard slot 35
              refine RW.casesB 35 rfl (fun h7 => ?_) (fun h7 => ?_)
              · skip
                have h7p := of_decide_eq_true h7
                refine RW.guardT rfl rfl h7 ?_
                refine RW.fieldB fl23x1 rfl rfl ?_
                refine RW.guardT rfl rfl h7 ?_
                refine RW.loadB1 sc3 rfl rfl (by first | exact Has.head | exact Has.tail Has.head | exact Has.tail (Has.tail Has.head) | exact Has.tail (Has.tail (Has.tail Has.head)) | exact Has.tail (Has.tail (Has.tail (Has.tail Has.head))) | exact Has.tail (Has.tail (Has.tail (Has.tail (Has.tail Has.head)))) | exact Has.tail (Has.tail (Has.tail (Has.tail (Has.tail (Has.tail Has.head)))))) rfl ?_
                refine RW.guardT rfl rfl h7 ?_
                refine RW.lss rfl rfl rfl ?_
                refine RW.guardT rfl rfl h5 ?_
                refine RW.pickB rfl rfl h7 rfl ?_
                refine RW.pickC rfl rfl h5 rfl ?_
                refine RW.assign rfl rfl ?_
                refine RW.nil (EX.seq (CW.ret ?_))
                refine EX.fin1 Tryd.results20 rfl (fun wz hw => ?_)
                -- mq: done
                refine ⟨?_, hw.ext⟩
                congr 2
                simp only [colF]
                first | (rw [decide_eq_decide]; omega) | (rw [eq_comm, decide_eq_false_iff_not]; omega) | (rw [eq_comm, decide_eq_true_iff]; omega)
              · skip
                have h7p := of_decide_eq_false h7
                refine RW.guardF rfl rfl rfl h7 ?_
                refine RW.guardF rfl rfl rfl h7 ?_
                refine RW.guardF rfl rfl rfl h7 ?_
                refine RW.guardT rfl rfl h5 ?_
                refine RW.pickC rfl rfl h7 rfl ?_
                refine RW.pickC rfl rfl h5 rfl ?_
                refine RW.assign rfl rfl ?_
                refine RW.nil (EX.seq (CW.ret ?_))
                refine EX.fin1 Tryd.results20 rfl (fun wz hw => ?_)
                -- mq: done
                refine ⟨?_, hw.ext⟩
                congr 2
                simp only [colF]
                first | (rw [decide_eq_decide]; omega) | (rw [eq_comm, decide_eq_false_iff_not]; omega) | (rw [eq_comm, decide_eq_true_iff]; omega)
            · skip
              have h6p := of_decide_eq_false h6
              refine RW.guardF rfl rfl rfl h6 ?_
              refine RW.guardF rfl rfl rfl h6 ?_
              refine RW.guardF rfl rfl rfl h6 ?_
              refine RW.guardT rfl rfl h5 ?_
              refine RW.pickC rfl rfl h6 rfl ?_
              refine RW.guardT rfl rfl h5 ?_
              refine RW.move rfl rfl ?_
              refine RW.guardF rfl rfl rfl rfl ?_
              refine RW.guardF rfl rfl rfl rfl ?_
              refine RW.guardF rfl rfl rfl rfl ?_
              refine RW.guardT rfl rfl h5 ?_
              refine RW.pickC rfl rfl rfl rfl ?_
              refine RW.pickC rfl rfl h5 rfl ?_
              refine RW.assign rfl rfl ?_
              refine RW.nil (EX.seq (CW.ret ?_))
              refine EX.fin1 Tryd.results20 rfl (fun wz hw => ?_)
              -- mq: done
              refine ⟨?_, hw.ext⟩
              congr 2
              simp only [colF]
              first | (rw [decide_eq_decide]; omega) | (rw [eq_comm, decide_eq_false_iff_not]; omega) | (rw [eq_comm, decide_eq_true_iff]; omega)
        · skip
          have h4p := of_decide_eq_false h4
          refine RW.guardF rfl rfl rfl h4 ?_
          refine RW.guardF rfl rfl rfl h4 ?_
          refine RW.guardF rfl rfl rfl h4 ?_
          refine RW.guardT rfl rfl h2 ?_
          refine RW.pickC rfl rfl h4 rfl ?_
          refine RW.pickC rfl rfl h2 rfl ?_
          refine RW.move rfl rfl ?_
          refine RW.guardT rfl rfl rfl ?_
          refine RW.fieldB fl23x0 rfl rfl ?_
          refine RW.guardT rfl rfl rfl ?_
          refine RW.loadB1 sc3 rfl rfl (by first | exact Has.head | exact Has.tail Has.head | exact Has.tail (Has.tail Has.head) | exact Has.tail (Has.tail (Has.tail Has.head)) | exact Has.tail (Has.tail (Has.tail (Has.tail Has.head))) | exact Has.tail (Has.tail (Has.tail (Has.tail (Has.tail Has.head)))) | exact Has.tail (Has.tail (Has.tail (Has.tail (Has.tail (Has.tail Has.head)))))) rfl ?_
          refine RW.guardT rfl rfl rfl ?_
          refine RW.eqlI rfl rfl rfl ?_
          refine RW.guardT rfl rfl rfl ?_
          refine RW.move rfl rfl ?_
          -- mq: guard slot 30
          refine RW.casesB 30 rfl (fun h6 => ?_) (fun h6 => ?_)
          · skip
            have h6p := of_decide_eq_true h6
            refine RW.guardT rfl rfl h6 ?_
            refine RW.fieldB fl23x1 rfl rfl ?_
            refine RW.guardT rfl rfl h6 ?_
            refine RW.loadB1 sc3 rfl rfl (by first | exact Has.head | exact Has.tail Has.head | exact Has.tail (Has.tail Has.head) | exact Has.tail (Has.tail (Has.tail Has.head)) | exact Has.tail (Has.tail (Has.tail (Has.tail Has.head))) | exact Has.tail (Has.tail (Has.tail (Has.tail (Has.tail Has.head)))) | exact Has.tail (Has.tail (Has.tail (Has.tail (Has.tail (Has.tail Has.head)))))) rfl ?_
            refine RW.guardT rfl rfl h6 ?_
            refine RW.geq rfl rfl rfl ?_
            refine RW.guardT rfl rfl rfl ?_
            refine RW.pickB rfl rfl h6 rfl ?_
            refine RW.guardT rfl rfl rfl ?_
            refine RW.move rfl rfl ?_
            -- mq: guard slot 35
            refine RW.casesB 35 rfl (fun h7 => ?_) (fun h7 => ?_)
            · skip
              have h7p := of_decide_eq_true h7
              refine RW.guardT rfl rfl h7 ?_
              refine RW.fieldB fl23x1 rfl rfl ?_
              refine RW.guardT rfl rfl h7 ?_
              refine RW.loadB1 sc3 rfl rfl (by first | exact Has.head | exact Has.tail Has.head | exact Has.tail (Has.tail Has.head) | exact Has.tail (Has.tail (Has.tail Has.head)) | exact Has.tail (Has.tail (Has.tail (Has.tail Has.head))) | exact Has.tail (Has.tail (Has.tail (Has.tail (Has.tail Has.head)))) | exact Has.tail (Has.tail (Has.tail (Has.tail (Has.tail (Has.tail Has.head)))))) rfl ?_
              refine RW.guardT rfl rfl h7 ?_
              refine RW.lss rfl rfl rfl ?_
              refine RW.guardT rfl rfl rfl ?_
              refine RW.pickB rfl rfl h7 rfl ?_
              refine RW.pickC rfl rfl rfl rfl ?_
              refine RW.assign rfl rfl ?_
              refine RW.nil (EX.seq (CW.ret ?_))
              refine EX.fin1 Tryd.results20 rfl (fun wz hw => ?_)
              -- mq: done
              refine ⟨?_, hw.ext⟩
              congr 2
              simp only [colF]
              first | (rw [decide_eq_decide]; omega) | (rw [eq_comm, decide_eq_false_iff_not]; omega) | (rw [eq_comm, decide_eq_true_iff]; omega)
            · skip
              have h7p := of_decide_eq_false h7
              refine RW.guardF rfl rfl rfl h7 ?_
              refine RW.guardF rfl rfl rfl h7 ?_
              refine RW.guardF rfl rfl rfl h7 ?_
              refine RW.guardT rfl rfl rfl ?_
              refine RW.pickC rfl rfl h7 rfl ?_
              refine RW.pickC rfl rfl rfl rfl ?_
              refine RW.assign rfl rfl ?_
              refine RW.nil (EX.seq (CW.ret ?_))
              refine EX.fin1 Tryd.results20 rfl (fun wz hw => ?_)
              -- mq: done
              refine ⟨?_, hw.ext⟩
              congr 2
              simp only [colF]
              first | (rw [decide_eq_decide]; omega) | (rw [eq_comm, decide_eq_false_iff_not]; omega) | (rw [eq_comm, decide_eq_true_iff]; omega)
          · skip
            have h6p := of_decide_eq_false h6
            refine RW.guardF rfl rfl rfl h6 ?_
            refine RW.guardF rfl rfl rfl h6 ?_
            refine RW.guardF rfl rfl rfl h6 ?_
            refine RW.guardT rfl rfl rfl ?_
            refine RW.pickC rfl rfl h6 rfl ?_
            refine RW.guardT rfl rfl rfl ?_
            refine RW.move rfl rfl ?_
            refine RW.guardF rfl rfl rfl rfl ?_
            refine RW.guardF rfl rfl rfl rfl ?_
            refine RW.guardF rfl rfl rfl rfl ?_
            refine RW.guardT rfl rfl rfl ?_
            refine RW.pickC rfl rfl rfl rfl ?_
            refine RW.pickC rfl rfl rfl rfl ?_
            refine RW.assign rfl rfl ?_
            refine RW.nil (EX.seq (CW.ret ?_))
            refine EX.fin1 Tryd.results20 rfl (fun wz hw => ?_)
            -- mq: done
            refine ⟨?_, hw.ext⟩
            congr 2
            simp only [colF]
            first | (rw [decide_eq_decide]; omega) | (rw [eq_comm, decide_eq_false_iff_not]; omega) | (rw [eq_comm, decide_eq_true_iff]; omega)
      · skip
        have h3p := of_decide_eq_false h3
        refine RW.guardF rfl rfl rfl h3 ?_
        refine RW.guardF rfl rfl rfl h3 ?_
        refine RW.guardF rfl rfl rfl h3 ?_
        refine RW.guardT rfl rfl h2 ?_
        refine RW.pickC rfl rfl h3 rfl ?_
        refine RW.guardT rfl rfl h2 ?_
        refine RW.move rfl rfl ?_
        refine RW.guardF rfl rfl rfl rfl ?_
        refine RW.guardF rfl rfl rfl rfl ?_
        refine RW.guardF rfl rfl rfl rfl ?_
        refine RW.guardT rfl rfl h2 ?_
        refine RW.pickC rfl rfl rfl rfl ?_
        refine RW.pickC rfl rfl h2 rfl ?_
        refine RW.move rfl rfl ?_
        refine RW.guardT rfl rfl rfl ?_
        refine RW.fieldB fl23x0 rfl rfl ?_
        refine RW.guardT rfl rfl rfl ?_
        refine RW.loadB1 sc3 rfl rfl (by first | exact Has.head | exact Has.tail Has.head | exact Has.tail (Has.tail Has.head) | exact Has.tail (Has.tail (Has.tail Has.head)) | exact Has.tail (Has.tail (Has.tail (Has.tail Has.head))) | exact Has.tail (Has.tail (Has.tail (Has.tail (Has.tail Has.head)))) | exact Has.tail (Has.tail (Has.tail (Has.tail (Has.tail (Has.tail Has.head)))))) rfl ?_
        refine RW.guardT rfl rfl rfl ?_
        refine RW.eqlI rfl rfl rfl ?_
        refine RW.guardT rfl rfl rfl ?_
        refine RW.move rfl rfl ?_
        -- mq: guard slot 30
        refine RW.casesB 30 rfl (fun h6 => ?_) (fun h6 => ?_)
        · skip
          have h6p := of_decide_eq_true h6
          refine RW.guardT rfl rfl h6 ?_
          refine RW.fieldB fl23x1 rfl rfl ?_
          refine RW.guardT rfl rfl h6 ?_
          refine RW.loadB1 sc3 rfl rfl (by first | exact Has.head | exact Has.tail Has.head | exact Has.tail (Has.tail Has.head) | exact Has.tail (Has.tail (Has.tail Has.head)) | exact Has.tail (Has.tail (Has.tail (Has.tail Has.head))) | exact Has.tail (Has.tail (Has.tail (Has.tail (Has.tail Has.head)))) | exact Has.tail (Has.tail (Has.tail (Has.tail (Has.tail (Has.tail Has.head)))))) rfl ?_
          refine RW.guardT rfl rfl h6 ?_
          refine RW.geq rfl rfl rfl ?_
          refine RW.guardT rfl rfl rfl ?_
          refine RW.pickB rfl rfl h6 rfl ?_
          refine RW.guardT rfl rfl rfl ?_
          refine RW.move rfl rfl ?_
          -- mq: guard slot 35
          refine RW.casesB 35 rfl (fun h7 => ?_) (fun h7 => ?_)
          · skip
            have h7p := of_decide_eq_true h7
            refine RW.guardT rfl rfl h7 ?_
            refine RW.fieldB fl23x1 rfl rfl ?_
            refine RW.guardT rfl rfl h7 ?_
            refine RW.loadB1 sc3 rfl rfl (by first | exact Has.head | exact Has.tail Has.head | exact Has.tail (Has.tail Has.head) | exact Has.tail (Has.tail (Has.tail Has.head)) | exact Has.tail (Has.tail (Has.tail (Has.tail Has.head))) | exact Has.tail (Has.tail (Has.tail (Has.tail (Has.tail Has.head)))) | exact Has.tail (Has.tail (Has.tail (Has.tail (Has.tail (Has.tail Has.head)))))) rfl ?_
            refine RW.guardT rfl rfl h7 ?_
            refine RW.lss rfl rfl rfl ?_
            refine RW.guardT rfl rfl rfl ?_
            refine RW.pickB rfl rfl h7 rfl ?_
            refine RW.pickC rfl rfl rfl rfl ?_
            refine RW.assign rfl rfl ?_
            refine RW.nil (EX.seq (CW.ret ?_))
            refine EX.fin1 Tryd.results20 rfl (fun wz hw => ?_)
            -- mq: done
            refine ⟨?_, hw.ext⟩
            congr 2
            simp only [colF]
            first | (rw [decide_eq_decide]; omega) | (rw [eq_comm, decide_eq_false_iff_not]; omega) | (rw [eq_comm, decide_eq_true_iff]; omega)
          · skip
            have h7p := of_decide_eq_false h7
            refine RW.guardF rfl rfl rfl h7 ?_
            refine RW.guardF rfl rfl rfl h7 ?_
            refine RW.guardF rfl rfl rfl h7 ?_
            refine RW.guardT rfl rfl rfl ?_
            refine RW.pickC rfl rfl h7 rfl ?_
            refine RW.pickC rfl rfl rfl rfl ?_
            refine RW.assign rfl rfl ?_
            refine RW.nil (EX.seq (CW.ret ?_))
            refine EX.fin1 Tryd.results20 rfl (fun wz hw => ?_)
            -- mq: done
            refine ⟨?_, hw.ext⟩
            congr 2
            simp only [colF]
            first | (rw [decide_eq_decide]; omega) | (rw [eq_comm, decide_eq_false_iff_not]; omega) | (rw [eq_comm, decide_eq_true_iff]; omega)
        · skip
          have h6p := of_decide_eq_false h6
          refine RW.guardF rfl rfl rfl h6 ?_
          refine RW.guardF rfl rfl rfl h6 ?_
          refine RW.guardF rfl rfl rfl h6 ?_
          refine RW.guardT rfl rfl rfl ?_
          refine RW.pickC rfl rfl h6 rfl ?_
          refine RW.guardT rfl rfl rfl ?_
          refine RW.move rfl rfl ?_
          refine RW.guardF rfl rfl rfl rfl ?_
          refine RW.guardF rfl rfl rfl rfl ?_
          refine RW.guardF rfl rfl rfl rfl ?_
          refine RW.guardT rfl rfl rfl ?_
          refine RW.pickC rfl rfl rfl rfl ?_
          refine RW.pickC rfl rfl rfl rfl ?_
          refine RW.assign rfl rfl ?_
          refine RW.nil (EX.seq (CW.ret ?_))
          refine EX.fin1 Tryd.results20 rfl (fun wz hw => ?_)
          -- mq: done
          refine ⟨?_, hw.ext⟩
          congr 2
          simp only [colF]
          first | (rw [decide_eq_decide]; omega) | (rw [eq_comm, decide_eq_false_iff_not]; omega) | (rw [eq_comm, decide_eq_true_iff]; omega)
  · skip
    have h1p := of_decide_eq_false h1
    refine RW.guardF rfl rfl rfl h1 ?_
    refine RW.guardF rfl rfl rfl h1 ?_
    refine RW.guardF rfl rfl rfl h1 ?_
    refine RW.pickC rfl rfl h1 rfl ?_
    refine RW.move rfl rfl ?_
    refine RW.guardT rfl rfl rfl ?_
    refine RW.fieldB fl23x0 rfl rfl ?_
    refine RW.guardT rfl rfl rfl ?_
    refine RW.loadB1 sc3 rfl rfl (by first | exact Has.head | exact Has.tail Has.head | exact Has.tail (Has.tail Has.head) | exact Has.tail (Has.tail (Has.tail Has.head)) | exact Has.tail (Has.tail (Has.tail (Has.tail Has.head))) | exact Has.tail (Has.tail (Has.tail (Has.tail (Has.tail Has.head)))) | exact Has.tail (Has.tail (Has.tail (Has.tail (Has.tail (Has.tail Has.head)))))) rfl ?_
    refine RW.guardT rfl rfl rfl ?_
    refine RW.eqlI rfl rfl rfl ?_
    refine RW.guardT rfl rfl rfl ?_
    refine RW.move rfl rfl ?_
    -- mq: guard slot 15
    refine RW.casesB 15 rfl (fun h3 => ?_) (fun h3 => ?_)
    · skip
      have h3p := of_decide_eq_true h3
      refine RW.guardT rfl rfl h3 ?_
      refine RW.fieldB fl23x1 rfl rfl ?_
      refine RW.guardT rfl rfl h3 ?_
      refine RW.loadB1 sc3 rfl rfl (by first | exact Has.head | exact Has.tail Has.head | exact Has.tail (Has.tail Has.head) | exact Has.tail (Has.tail (Has.tail Has.head)) | exact Has.tail (Has.tail (Has.tail (Has.tail Has.head))) | exact Has.tail (Has.tail (Has.tail (Has.tail (Has.tail Has.head)))) | exact Has.tail (Has.tail (Has.tail (Has.tail (Has.tail (Has.tail Has.head)))))) rfl ?_
      refine RW.guardT rfl rfl h3 ?_
      refine RW.geq rfl rfl rfl ?_
      refine RW.guardT rfl rfl rfl ?_
      refine RW.pickB rfl rfl h3 rfl ?_
      refine RW.guardT rfl rfl rfl ?_
      refine RW.move rfl rfl ?_
      -- mq: guard slot 20
      refine RW.casesB 20 rfl (fun h4 => ?_) (fun h4 => ?_)
      · skip
        have h4p := of_decide_eq_true h4
        refine RW.guardT rfl rfl h4 ?_
        refine RW.fieldB fl23x1 rfl rfl ?_
        refine RW.guardT rfl rfl h4 ?_
        refine RW.loadB1 sc3 rfl rfl (by first | exact Has.head | exact Has.tail Has.head | exact Has.tail (Has.tail Has.head) | exact Has.tail (Has.tail (Has.tail Has.head)) | exact Has.tail (Has.tail (Has.tail (Has.tail Has.head))) | exact Has.tail (Has.tail (Has.tail (Has.tail (Has.tail Has.head)))) | exact Has.tail (Has.tail (Has.tail (Has.tail (Has.tail (Has.tail Has.head)))))) rfl ?_
        refine RW.guardT rfl rfl h4 ?_
        refine RW.lss rfl rfl rfl ?_
        refine RW.guardT rfl rfl rfl ?_
        refine RW.pickB rfl rfl h4 rfl ?_
        refine RW.pickC rfl rfl rfl rfl ?_
        refine RW.move rfl rfl ?_
        -- mq: guard slot 26
        refine RW.casesB 26 rfl (fun h5 => ?_) (fun h5 => ?_)
        · skip
          have h5p := of_decide_eq_true h5
          refine RW.guardF rfl rfl rfl h5 ?_
          refine RW.guardF rfl rfl rfl h5 ?_
          refine RW.guardF rfl rfl rfl h5 ?_
          refine RW.guardF rfl rfl rfl h5 ?_
          refine RW.guardU rfl rfl rfl ?_
          refine RW.guardU rfl rfl rfl ?_
          refine RW.guardU rfl rfl rfl ?_
          refine RW.guardF rfl rfl rfl h5 ?_
          refine RW.guardF rfl rfl rfl h5 ?_
          refine RW.guardU rfl rfl rfl ?_
          refine RW.guardU rfl rfl rfl ?_
          refine RW.guardU rfl rfl rfl ?_
          refine RW.guardF rfl rfl rfl h5 ?_
          refine RW.pickB rfl rfl h5 rfl ?_
          refine RW.assign rfl rfl ?_
          refine RW.nil (EX.seq (CW.ret ?_))
          refine EX.fin1 Tryd.results20 rfl (fun wz hw => ?_)
          -- mq: done
          refine ⟨?_, hw.ext⟩
          congr 2
          simp only [colF]
          first | (rw [decide_eq_decide]; omega) | (rw [eq_comm, decide_eq_false_iff_not]; omega) | (rw [eq_comm, decide_eq_true_iff]; omega)
        · skip
          have h5p := of_decide_eq_false h5
          refine RW.guardT rfl rfl h5 ?_
          refine RW.fieldB fl23x0 rfl rfl ?_
          refine RW.guardT rfl rfl h5 ?_
          refine RW.loadB1 sc3 rfl rfl (by first | exact Has.head | exact Has.tail Has.head | exact Has.tail (Has.tail Has.head) | exact Has.tail (Has.tail (Has.tail Has.head)) | exact Has.tail (Has.tail (Has.tail (Has.tail Has.head))) | exact Has.tail (Has.tail (Has.tail (Has.tail (Has.tail Has.head)))) | exact Has.tail (Has.tail (Has.tail (Has.tail (Has.tail (Has.tail Has.head)))))) rfl ?_
          refine RW.guardT rfl rfl h5 ?_
          refine RW.eqlI rfl rfl rfl ?_
          refine RW.guardT rfl rfl h5 ?_
          refine RW.move rfl rfl ?_
          -- mq: guard slot 30
          refine RW.casesB 30 rfl (fun h6 => ?_) (fun h6 => ?_)
          · skip
            have h6p := of_decide_eq_true h6
            refine RW.guardT rfl rfl h6 ?_
            refine RW.fieldB fl23x1 rfl rfl ?_
            refine RW.guardT rfl rfl h6 ?_
            refine RW.loadB1 sc3 rfl rfl (by first | exact Has.head | exact Has.tail Has.head | exact Has.tail (Has.tail Has.head) | exact Has.tail (Has.tail (Has.tail Has.head)) | exact Has.tail (Has.tail (Has.tail (Has.tail Has.head))) | exact Has.tail (Has.tail (Has.tail (Has.tail (Has.tail Has.head)))) | exact Has.tail (Has.tail (Has.tail (Has.tail (Has.tail (Has.tail Has.head)))))) rfl ?_
            refine RW.guardT rfl rfl h6 ?_
            refine RW.geq rfl rfl rfl ?_
            refine RW.guardT rfl rfl h5 ?_
            refine RW.pickB rfl rfl h6 rfl ?_
            refine RW.guardT rfl rfl h5 ?_
            refine RW.move rfl rfl ?_
            -- mq: guard slot 35
            refine RW.casesB 35 rfl (fun h7 => ?_) (fun h7 => ?_)
            · skip
              have h7p := of_decide_eq_true h7
              refine RW.guardT rfl rfl h7 ?_
              refine RW.fieldB fl23x1 rfl rfl ?_
              refine RW.guardT rfl rfl h7 ?_
              refine RW.loadB1 sc3 rfl rfl (by first | exact Has.head | exact Has.tail Has.head | exact Has.tail (Has.tail Has.head) | exact Has.tail (Has.tail (Has.tail Has.head)) | exact Has.tail (Has.tail (Has.tail (Has.tail Has.head))) | exact Has.tail (Has.tail (Has.tail (Has.tail (Has.tail Has.head)))) | exact Has.tail (Has.tail (Has.tail (Has.tail (Has.tail (Has.tail Has.head)))))) rfl ?_
              refine RW.guardT rfl rfl h7 ?_
              refine RW.lss rfl rfl rfl ?_
              refine RW.guardT rfl rfl h5 ?_
              refine RW.pickB rfl rfl h7 rfl ?_
              refine RW.pickC rfl rfl h5 rfl ?_
              refine RW.assign rfl rfl ?_
              refine RW.nil (EX.seq (CW.ret ?_))
              refine EX.fin1 Tryd.results20 rfl (fun wz hw => ?_)
              -- mq: done
              refine ⟨?_, hw.ext⟩
              congr 2
              simp only [colF]
              first | (rw [decide_eq_decide]; omega) | (rw [eq_comm, decide_eq_false_iff_not]; omega) | (rw [eq_comm, decide_eq_true_iff]; omega)
            · skip
              have h7p := of_decide_eq_false h7
              refine RW.guardF rfl rfl rfl h7 ?_
              refine RW.guardF rfl rfl rfl h7 ?_
              refine RW.guardF rfl rfl rfl h7 ?_
              refine RW.guardT rfl rfl h5 ?_
              refine RW.pickC rfl rfl h7 rfl ?_
              refine RW.pickC rfl rfl h5 rfl ?_
              refine RW.assign rfl rfl ?_
              refine RW.nil (EX.seq (CW.ret ?_))
              refine EX.fin1 Tryd.results20 rfl (fun wz hw => ?_)
              -- mq: done
              refine ⟨?_, hw.ext⟩
              congr 2
              simp only [colF]
              first | (rw [decide_eq_decide]; omega) | (rw [eq_comm, decide_eq_false_iff_not]; omega) | (rw [eq_comm, decide_eq_true_iff]; omega)
          · skip
            have h6p := of_decide_eq_false h6
            refine RW.guardF rfl rfl rfl h6 ?_
            refine RW.guardF rfl rfl rfl h6 ?_
            refine RW.guardF rfl rfl rfl h6 ?_
            refine RW.guardT rfl rfl h5 ?_
            refine RW.pickC rfl rfl h6 rfl ?_
            refine RW.guardT rfl rfl h5 ?_
            refine RW.move rfl rfl ?_
            refine RW.guardF rfl rfl rfl rfl ?_
            refine RW.guardF rfl rfl rfl rfl ?_
            refine RW.guardF rfl rfl rfl rfl ?_
            refine RW.guardT rfl rfl h5 ?_
            refine RW.pickC rfl rfl rfl rfl ?_
            refine RW.pickC rfl rfl h5 rfl ?_
            refine RW.assign rfl rfl ?_
            refine RW.nil (EX.seq (CW.ret ?_))
            refine EX.fin1 Tryd.results20 rfl (fun wz hw => ?_)
            -- mq: done
            refine ⟨?_, hw.ext⟩
            congr 2
            simp only [colF]
            first | (rw [decide_eq_decide]; omega) | (rw [eq_comm, decide_eq_false_iff_not]; omega) | (rw [eq_comm, decide_eq_true_iff]; omega)
      · skip
        have h4p := of_decide_eq_false h4
        refine RW.guardF rfl rfl rfl h4 ?_
        refine RW.guardF rfl rfl rfl h4 ?_
        refine RW.guardF rfl rfl rfl h4 ?_
        refine RW.guardT rfl rfl rfl ?_
        refine RW.pickC rfl rfl h4 rfl ?_
        refine RW.pickC rfl rfl rfl rfl ?_
        refine RW.move rfl rfl ?_
        refine RW.guardT rfl rfl rfl ?_
        refine RW.fieldB fl23x0 rfl rfl ?_
        refine RW.guardT rfl rfl rfl ?_
        refine RW.loadB1 sc3 rfl rfl (by first | exact Has.head | exact Has.tail Has.head | exact Has.tail (Has.tail Has.head) | exact Has.tail (Has.tail (Has.tail Has.head)) | exact Has.tail (Has.tail (Has.tail (Has.tail Has.head))) | exact Has.tail (Has.tail (Has.tail (Has.tail (Has.tail Has.head)))) | exact Has.tail (Has.tail (Has.tail (Has.tail (Has.tail (Has.tail Has.head)))))) rfl ?_
        refine RW.guardT rfl rfl rfl ?_
        refine RW.eqlI rfl rfl rfl ?_
        refine RW.guardT rfl rfl rfl ?_
        refine RW.move rfl rfl ?_
        -- mq: guard slot 30
        refine RW.casesB 30 rfl (fun h6 => ?_) (fun h6 => ?_)
        · skip
          have h6p := of_decide_eq_true h6
          refine RW.guardT rfl rfl h6 ?_
          refine RW.fieldB fl23x1 rfl rfl ?_
          refine RW.guardT rfl rfl h6 ?_
          refine RW.loadB1 sc3 rfl rfl (by first | exact Has.head | exact Has.tail Has.head | exact Has.tail (Has.tail Has.head) | exact Has.tail (Has.tail (Has.tail Has.head)) | exact Has.tail (Has.tail (Has.tail (Has.tail Has.head))) | exact Has.tail (Has.tail (Has.tail (Has.tail (Has.tail Has.head)))) | exact Has.tail (Has.tail (Has.tail (Has.tail (Has.tail (Has.tail Has.head)))))) rfl ?_
          refine RW.guardT rfl rfl h6 ?_
          refine RW.geq rfl rfl rfl ?_
          refine RW.guardT rfl rfl rfl ?_
          refine RW.pickB rfl rfl h6 rfl ?_
          refine RW.guardT rfl rfl rfl ?_
          refine RW.move rfl rfl ?_
          -- mq: guard slot 35
          refine RW.casesB 35 rfl (fun h7 => ?_) (fun h7 => ?_)
          · skip
            have h7p := of_decide_eq_true h7
            refine RW.guardT rfl rfl h7 ?_
            refine RW.fieldB fl23x1 rfl rfl ?_
            refine RW.guardT rfl rfl h7 ?_
            refine RW.loadB1 sc3 rfl rfl (by first | exact Has.head | exact Has.tail Has.head | exact Has.tail (Has.tail Has.head) | exact Has.tail (Has.tail (Has.tail Has.head)) | exact Has.tail (Has.tail (Has.tail (Has.tail Has.head))) | exact Has.tail (Has.tail (Has.tail (Has.tail (Has.tail Has.head)))) | exact Has.tail (Has.tail (Has.tail (Has.tail (Has.tail (Has.tail Has.head)))))) rfl ?_
            refine RW.guardT rfl rfl h7 ?_
            refine RW.lss rfl rfl rfl ?_
            refine RW.guardT rfl rfl rfl ?_
            refine RW.pickB rfl rfl h7 rfl ?_
            refine RW.pickC rfl rfl rfl rfl ?_
            refine RW.assign rfl rfl ?_
            refine RW.nil (EX.seq (CW.ret ?_))
            refine EX.fin1 Tryd.results20 rfl (fun wz hw => ?_)
            -- mq: done
            refine ⟨?_, hw.ext⟩
            congr 2
            simp only [colF]
            first | (rw [decide_eq_decide]; omega) | (rw [eq_comm, decide_eq_false_iff_not]; omega) | (rw [eq_comm, decide_eq_true_iff]; omega)
          · skip
            have h7p := of_decide_eq_false h7
            refine RW.guardF rfl rfl rfl h7 ?_
            refine RW.guardF rfl rfl rfl h7 ?_
            refine RW.guardF rfl rfl rfl h7 ?_
            refine RW.guardT rfl rfl rfl ?_
            refine RW.pickC rfl rfl h7 rfl ?_
            refine RW.pickC rfl rfl rfl rfl ?_
            refine RW.assign rfl rfl ?_
            refine RW.nil (EX.seq (CW.ret ?_))
            refine EX.fin1 Tryd.results20 rfl (fun wz hw => ?_)
            -- mq: done
            refine ⟨?_, hw.ext⟩
            congr 2
            simp only [colF]
            first | (rw [decide_eq_decide]; omega) | (rw [eq_comm, decide_eq_false_iff_not]; omega) | (rw [eq_comm, decide_eq_true_iff]; omega)
        · skip
          have h6p := of_decide_eq_false h6
          refine RW.guardF rfl rfl rfl h6 ?_
          refine RW.guardF rfl rfl rfl h6 ?_
          refine RW.guardF rfl rfl rfl h6 ?_
          refine RW.guardT rfl rfl rfl ?_
          refine RW.pickC rfl rfl h6 rfl ?_
          refine RW.guardT rfl rfl rfl ?_
          refine RW.move rfl rfl ?_
          refine RW.guardF rfl rfl rfl rfl ?_
          refine RW.guardF rfl rfl rfl rfl ?_
          refine RW.guardF rfl rfl rfl rfl ?_
          refine RW.guardT rfl rfl rfl ?_
          refine RW.pickC rfl rfl rfl rfl ?_
          refine RW.pickC rfl rfl rfl rfl ?_
          refine RW.assign rfl rfl ?_
          refine RW.nil (EX.seq (CW.ret ?_))
          refine EX.fin1 Tryd.results20 rfl (fun wz hw => ?_)
          -- mq: done
          refine ⟨?_, hw.ext⟩
          congr 2
          simp only [colF]
          first | (rw [decide_eq_decide]; omega) | (rw [eq_comm, decide_eq_false_iff_not]; omega) | (rw [eq_comm, decide_eq_true_iff]; omega)
    · skip
      have h3p := of_decide_eq_false h3
      refine RW.guardF rfl rfl rfl h3 ?_
      refine RW.guardF rfl rfl rfl h3 ?_
      refine RW.guardF rfl rfl rfl h3 ?_
      refine RW.guardT rfl rfl rfl ?_
      refine RW.pickC rfl rfl h3 rfl ?_
      refine RW.guardT rfl rfl rfl ?_
      refine RW.move rfl rfl ?_
      refine RW.guardF rfl rfl rfl rfl ?_
      refine RW.guardF rfl rfl rfl rfl ?_
      refine RW.guardF rfl rfl rfl rfl ?_
      refine RW.guardT rfl rfl rfl ?_
      refine RW.pickC rfl rfl rfl rfl ?_
      refine RW.pickC rfl rfl rfl rfl ?_
      refine RW.move rfl rfl ?_
      refine RW.guardT rfl rfl rfl ?_
      refine RW.fieldB fl23x0 rfl rfl ?_
      refine RW.guardT rfl rfl rfl ?_
      refine RW.loadB1 sc3 rfl rfl (by first | exact Has.head | exact Has.tail Has.head | exact Has.tail (Has.tail Has.head) | exact Has.tail (Has.tail (Has.tail Has.head)) | exact Has.tail (Has.tail (Has.tail (Has.tail Has.head))) | exact Has.tail (Has.tail (Has.tail (Has.tail (Has.tail Has.head)))) | exact Has.tail (Has.tail (Has.tail (Has.tail (Has.tail (Has.tail Has.head)))))) rfl ?_
      refine RW.guardT rfl rfl rfl ?_
      refine RW.eqlI rfl rfl rfl ?_
      refine RW.guardT rfl rfl rfl ?_
      refine RW.move rfl rfl ?_
      -- mq: guard slot 30
      refine RW.casesB 30 rfl (fun h6 => ?_) (fun h6 => ?_)
      · skip
        have h6p := of_decide_eq_true h6
        refine RW.guardT rfl rfl h6 ?_
        refine RW.fieldB fl23x1 rfl rfl ?_
        refine RW.guardT rfl rfl h6 ?_
        refine RW.loadB1 sc3 rfl rfl (by first | exact Has.head | exact Has.tail Has.head | exact Has.tail (Has.tail Has.head) | exact Has.tail (Has.tail (Has.tail Has.head)) | exact Has.tail (Has.tail (Has.tail (Has.tail Has.head))) | exact Has.tail (Has.tail (Has.tail (Has.tail (Has.tail Has.head)))) | exact Has.tail (Has.tail (Has.tail (Has.tail (Has.tail (Has.tail Has.head)))))) rfl ?_
        refine RW.guardT rfl rfl h6 ?_
        refine RW.geq rfl rfl rfl ?_
        refine RW.guardT rfl rfl rfl ?_
        refine RW.pickB rfl rfl h6 rfl ?_
        refine RW.guardT rfl rfl rfl ?_
        refine RW.move rfl rfl ?_
        -- mq: guard slot 35
        refine RW.casesB 35 rfl (fun h7 => ?_) (fun h7 => ?_)
        · skip
          have h7p := of_decide_eq_true h7
          refine RW.guardT rfl rfl h7 ?_
          refine RW.fieldB fl23x1 rfl rfl ?_
          refine RW.guardT rfl rfl h7 ?_
          refine RW.loadB1 sc3 rfl rfl (by first | exact Has.head | exact Has.tail Has.head | exact Has.tail (Has.tail Has.head) | exact Has.tail (Has.tail (Has.tail Has.head)) | exact Has.tail (Has.tail (Has.tail (Has.tail Has.head))) | exact Has.tail (Has.tail (Has.tail (Has.tail (Has.tail Has.head)))) | exact Has.tail (Has.tail (Has.tail (Has.tail (Has.tail (Has.tail Has.head)))))) rfl ?_
          refine RW.guardT rfl rfl h7 ?_
          refine RW.lss rfl rfl rfl ?_
          refine RW.guardT rfl rfl rfl ?_
          refine RW.pickB rfl rfl h7 rfl ?_
          refine RW.pickC rfl rfl rfl rfl ?_
          refine RW.assign rfl rfl ?_
          refine RW.nil (EX.seq (CW.ret ?_))
          refine EX.fin1 Tryd.results20 rfl (fun wz hw => ?_)
          -- mq: done
          refine ⟨?_, hw.ext⟩
          congr 2
          simp only [colF]
          first | (rw [decide_eq_decide]; omega) | (rw [eq_comm, decide_eq_false_iff_not]; omega) | (rw [eq_comm, decide_eq_true_iff]; omega)
        · skip
          have h7p := of_decide_eq_false h7
          refine RW.guardF rfl rfl rfl h7 ?_
          refine RW.guardF rfl rfl rfl h7 ?_
          refine RW.guardF rfl rfl rfl h7 ?_
          refine RW.guardT rfl rfl rfl ?_
          refine RW.pickC rfl rfl h7 rfl ?_
          refine RW.pickC rfl rfl rfl rfl ?_
          refine RW.assign rfl rfl ?_
          refine RW.nil (EX.seq (CW.ret ?_))
          refine EX.fin1 Tryd.results20 rfl (fun wz hw => ?_)
          -- mq: done
          refine ⟨?_, hw.ext⟩
          congr 2
          simp only [colF]
          first | (rw [decide_eq_decide]; omega) | (rw [eq_comm, decide_eq_false_iff_not]; omega) | (rw [eq_comm, decide_eq_true_iff]; omega)
      · skip
        have h6p := of_decide_eq_false h6
        refine RW.guardF rfl rfl rfl h6 ?_
        refine RW.guardF rfl rfl rfl h6 ?_
        refine RW.guardF rfl rfl rfl h6 ?_
        refine RW.guardT rfl rfl rfl ?_
        refine RW.pickC rfl rfl h6 rfl ?_
        refine RW.guardT rfl rfl rfl ?_
        refine RW.move rfl rfl ?_
        refine RW.guardF rfl rfl rfl rfl ?_
        refine RW.guardF rfl rfl rfl rfl ?_
        refine RW.guardF rfl rfl rfl rfl ?_
        refine RW.guardT rfl rfl rfl ?_
        refine RW.pickC rfl rfl rfl rfl ?_
        refine RW.pickC rfl rfl rfl rfl ?_
        refine RW.assign rfl rfl ?_
        refine RW.nil (EX.seq (CW.ret ?_))
        refine EX.fin1 Tryd.results20 rfl (fun wz hw => ?_)
        -- mq: done
        refine ⟨?_, hw.ext⟩
        congr 2
        simp only [colF]
        first | (rw [decide_eq_decide]; omega) | (rw [eq_comm, decide_eq_false_iff_not]; omega) | (rw [eq_comm, decide_eq_true_iff]; omega)
theorem has_c (w : World) (n f : Nat) (hn : n ≤ 9223372036854775807) (hf : 0 < f) : Calls Tryd.prog 21 [.int .i64 (n : Int), .int .i64 (f : Int)].toArray w (fun e w' => e = .returned (.bool (hasF n f)) ∧ Ext [] w w') := by
  refine calls (n := 14) Tryd.func21 rfl Tryd.ntmps21 rfl ?_
  refine CW.sub (H' := SH w [] []) ?_ (Sub.refl _) (fun x hx => SH.start' _ _ hx)
  have h0 : (0 : Int) ≤ (n : Int) / (f : Int) := Int.ediv_nonneg (by omega) (by omega)
  refine CW.seq (CW.region ?_)
  refine RW.assign rfl rfl ?_
  refine RW.nil (EX.seq (CW.seq (CW.region ?_)))
  refine RW.move rfl rfl ?_
  refine RW.move rfl rfl ?_
  refine RW.quoN rfl rfl rfl (by omega) (by omega) (by omega) ?_
  refine RW.assign rfl rfl ?_
  refine RW.nil (EX.seq (CW.seq (CW.seq (CW.region ?_))))
  refine RW.move rfl rfl ?_
  refine RW.lss rfl rfl rfl ?_
  refine RW.nil (EX.seq ?_)
  -- mq: cond
  first | refine CW.condD rfl (fun h => ?_) (fun h => ?_) | refine CW.cond rfl (fun h => ?_) (fun h => ?_)
  · skip
    omega
  · skip
    refine CW.skip (EX.seq (CW.seq (CW.region ?_)))
    refine RW.move rfl rfl ?_
    refine RW.remN rfl rfl rfl (by omega) (by omega) ?_
    refine RW.eqlI rfl rfl rfl ?_
    refine RW.assign rfl rfl ?_
    refine RW.nil (EX.seq (CW.ret ?_))
    refine EX.fin1 Tryd.results21 rfl (fun wz hw => ?_)
    -- mq: done
    refine ⟨?_, hw.ext⟩
    congr 2
    simp only [hasF, decide_eq_decide]
    rw [← Int.natCast_ediv]; omega
attribute [irreducible] colF hasF
end Go.Proofs.YtojfodeienchfaaDoor.Mq
