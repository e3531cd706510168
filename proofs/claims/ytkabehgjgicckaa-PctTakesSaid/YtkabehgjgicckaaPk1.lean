/- walks: between, plain, hex, code, what Lay and lower make of a byte -/
import Derived.Test.YtkabehgjgicckaaData
namespace Go.Proofs.Ytkabehgjgicckaa.Mq
open Go Go.RowKit Go.Proofs

theorem between_c (w : World) (c lo hi : UInt8) :
    Calls Try.prog 27 [.int .u8 (c.toNat : Int), .int .u8 (lo.toNat : Int), .int .u8 (hi.toNat : Int)].toArray w (fun e w' => e = .returned (.bool (betw c lo hi)) ∧ w' = w) := by
  refine calls (n := 15) Try.func27 rfl Try.ntmps27 rfl ?_
  refine CW.seq (CW.region ?_)
  refine RW.assign rfl rfl ?_
  refine RW.nil (EX.seq (CW.seq (CW.region ?_)))
  refine RW.move rfl rfl ?_
  refine RW.move rfl rfl ?_
  refine RW.geq rfl rfl rfl ?_
  refine RW.move rfl rfl ?_
  -- mq: guard slot 10
  refine RW.casesB 10 rfl (fun h1 => ?_) (fun h1 => ?_)
  · skip
    have h1p := of_decide_eq_true h1
    refine RW.guardT rfl rfl h1 ?_
    refine RW.move rfl rfl ?_
    refine RW.guardT rfl rfl h1 ?_
    refine RW.move rfl rfl ?_
    refine RW.guardT rfl rfl h1 ?_
    refine RW.leq rfl rfl rfl ?_
    refine RW.pickB rfl rfl h1 rfl ?_
    refine RW.assign rfl rfl ?_
    refine RW.nil (EX.seq (CW.ret ?_))
    refine EX.fin1 Try.results27 rfl (fun wz hw => ?_)
    -- mq: done
    exact ⟨by unfold betw; rw [decide_eq_true (show lo.toNat ≤ c.toNat by omega)]; simp, hw⟩
  · skip
    have h1p := of_decide_eq_false h1
    refine RW.guardF rfl rfl rfl h1 ?_
    refine RW.guardF rfl rfl rfl h1 ?_
    refine RW.guardF rfl rfl rfl h1 ?_
    refine RW.pickC rfl rfl h1 rfl ?_
    refine RW.assign rfl rfl ?_
    refine RW.nil (EX.seq (CW.ret ?_))
    refine EX.fin1 Try.results27 rfl (fun wz hw => ?_)
    -- mq: done
    exact ⟨by unfold betw; rw [decide_eq_false (show ¬ lo.toNat ≤ c.toNat by omega)]; rfl, hw⟩
theorem hex_c (w : World) (c : UInt8) :
    Calls Try.prog 35 [.int .u8 (c.toNat : Int)].toArray w (fun e w' => e = .returned (.int .i64 (hexI c)) ∧ w' = w) := by
  have hlt := c.toNat_lt
  refine calls (n := 23) Try.func35 rfl Try.ntmps35 rfl ?_
  refine CW.seq (CW.region ?_)
  refine RW.assign rfl rfl ?_
  refine RW.nil (EX.seq (CW.seq (CW.block (CW.seq (CW.region ?_)))))
  refine RW.move rfl rfl ?_
  -- mq: op 1: ('Op.call', ('Call.mk', ('Callee.value', ('Operand.func', '27')), ('arr', ('Operand.tmp', '4'), ('Operand.const', ('Value.int', 'IntKind.u8', '48')), ('Operand.const', ('Value.int', 'IntKind.u8', '57'))), ('arr', '5', '5', '5'))) -> slot 5 ("pct.go:46")
  refine RW.callP rfl ca27 rfl (fun w' _ => between_c w' c 48 57) ?_
  refine RW.assign rfl rfl ?_
  refine RW.nil (EX.seq ?_)
  -- mq: cond
  first | refine CW.condD rfl (fun h1 => ?_) (fun h1 => ?_) | refine CW.cond rfl (fun h1 => ?_) (fun h1 => ?_)
  · skip
    have h2 : 48 ≤ c.toNat := by simp [betw] at h1; exact h1.1
    refine CW.seq (CW.region ?_)
    refine RW.move rfl rfl ?_
    refine RW.sub_ rfl rfl rfl (r := (c.toNat : Int) - 48) (wrapN8 (by omega) (by omega)) ?_
    refine RW.convI rfl rfl Try.underlying5 Try.underlying3 (wrap64 (by omega) (by omega)) ?_
    refine RW.assign rfl rfl ?_
    refine RW.nil (EX.seq (CW.ret (EX.bkR (EX.seqR ?_))))
    refine EX.fin1 Try.results35 rfl (fun wz hw => ?_)
    -- mq: done
    exact ⟨by rw [hexI, if_pos h1], hw⟩
  · skip
    refine CW.seq (CW.region ?_)
    refine RW.move rfl rfl ?_
    -- mq: op 1: ('Op.call', ('Call.mk', ('Callee.value', ('Operand.func', '27')), ('arr', ('Operand.tmp', '10'), ('Operand.const', ('Value.int', 'IntKind.u8', '97')), ('Operand.const', ('Value.int', 'IntKind.u8', '102'))), ('arr', '5', '5', '5'))) -> slot 11 ("pct.go:48")
    refine RW.callP rfl ca27 rfl (fun w' _ => between_c w' c 97 102) ?_
    refine RW.assign rfl rfl ?_
    refine RW.nil (EX.seq ?_)
    -- mq: cond
    first | refine CW.condD rfl (fun h2 => ?_) (fun h2 => ?_) | refine CW.cond rfl (fun h2 => ?_) (fun h2 => ?_)
    · skip
      have h3 : 97 ≤ c.toNat := by simp [betw] at h2; exact h2.1
      refine CW.seq (CW.region ?_)
      refine RW.move rfl rfl ?_
      refine RW.sub_ rfl rfl rfl (r := (c.toNat : Int) - 97) (wrapN8 (by omega) (by omega)) ?_
      refine RW.convI rfl rfl Try.underlying5 Try.underlying3 (wrap64 (by omega) (by omega)) ?_
      refine RW.add rfl rfl rfl (wrap64 (by omega) (by omega)) ?_
      refine RW.assign rfl rfl ?_
      refine RW.nil (EX.seq (CW.ret (EX.bkR (EX.seqR ?_))))
      refine EX.fin1 Try.results35 rfl (fun wz hw => ?_)
      -- mq: done
      exact ⟨by rw [hexI, if_neg (by simp [h1]), if_pos h2], hw⟩
    · skip
      refine CW.seq (CW.region ?_)
      refine RW.move rfl rfl ?_
      -- mq: op 1: ('Op.call', ('Call.mk', ('Callee.value', ('Operand.func', '27')), ('arr', ('Operand.tmp', '17'), ('Operand.const', ('Value.int', 'IntKind.u8', '65')), ('Operand.const', ('Value.int', 'IntKind.u8', '70'))), ('arr', '5', '5', '5'))) -> slot 18 ("pct.go:50")
      refine RW.callP rfl ca27 rfl (fun w' _ => between_c w' c 65 70) ?_
      refine RW.assign rfl rfl ?_
      refine RW.nil (EX.seq ?_)
      -- mq: cond
      first | refine CW.condD rfl (fun h3 => ?_) (fun h3 => ?_) | refine CW.cond rfl (fun h3 => ?_) (fun h3 => ?_)
      · skip
        have h4 : 65 ≤ c.toNat := by simp [betw] at h3; exact h3.1
        refine CW.seq (CW.region ?_)
        refine RW.move rfl rfl ?_
        refine RW.sub_ rfl rfl rfl (r := (c.toNat : Int) - 65) (wrapN8 (by omega) (by omega)) ?_
        refine RW.convI rfl rfl Try.underlying5 Try.underlying3 (wrap64 (by omega) (by omega)) ?_
        refine RW.add rfl rfl rfl (wrap64 (by omega) (by omega)) ?_
        refine RW.assign rfl rfl ?_
        refine RW.nil (EX.seq (CW.ret (EX.bkR (EX.seqR ?_))))
        refine EX.fin1 Try.results35 rfl (fun wz hw => ?_)
        -- mq: done
        exact ⟨by rw [hexI, if_neg (by simp [h1]), if_neg (by simp [h2]), if_pos h3], hw⟩
      · skip
        refine CW.skip (EX.bkN (EX.seq (CW.seq (CW.region ?_))))
        refine RW.assign rfl rfl ?_
        refine RW.nil (EX.seq (CW.ret ?_))
        refine EX.fin1 Try.results35 rfl (fun wz hw => ?_)
        -- mq: done
        exact ⟨by rw [hexI, if_neg (by simp [h1]), if_neg (by simp [h2]), if_neg (by simp [h3])], hw⟩
end Go.Proofs.Ytkabehgjgicckaa.Mq
