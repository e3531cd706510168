/- strings.CutPrefix -/
import Derived.Test.YtnkdabjahmjdoaaDoorBits
import Derived.Test.YtnkdabjahmjdoaaDoorTypes
namespace Go.Proofs.YtnkdabjahmjdoaaDoor.Mq
open Go Go.RowKit Go.Proofs

theorem caCutPrefixL : CaT Tryd.prog 73 := CaT.of Tryd.func73 (by kernel_rfl) (by kernel_rfl)
theorem caHasPrefixL : CaT Tryd.prog 93 := CaT.of Tryd.func93 (by kernel_rfl) (by kernel_rfl)
theorem hasPrefix_c (w : World) (s p : List UInt8) (hs : s.length ≤ 9223372036854775807) (hp : p.length ≤ 9223372036854775807) : Calls Tryd.prog 93 [.string (bs s), .string (bs p)].toArray w (fun e w' => e = .returned (.bool (decide (s.take p.length = p))) ∧ Ext [] w w') := by
  refine calls (n := 18) Tryd.func93 rfl Tryd.ntmps93 rfl ?_
  refine CW.sub (H' := SH w [] []) ?_ (Sub.refl _) (fun x hx => SH.start' _ _ hx)
  refine CW.seq (CW.region ?_)
  refine RW.assign rfl rfl ?_
  refine RW.nil (EX.seq (CW.seq (CW.region ?_)))
  refine RW.move rfl rfl ?_
  refine RW.lenS Tryd.underlying9 rfl rfl ?_
  refine RW.move rfl rfl ?_
  refine RW.lenS Tryd.underlying9 rfl rfl ?_
  refine RW.geq rfl rfl rfl ?_
  refine RW.move rfl rfl ?_
  -- mq: guard slot 10
  refine RW.casesB 10 rfl (fun h1 => ?_) (fun h1 => ?_)
  · skip
    have h1p := of_decide_eq_true h1
    refine RW.guardT rfl rfl h1 ?_
    refine RW.move rfl rfl ?_
    refine RW.guardT rfl rfl h1 ?_
    refine RW.move rfl rfl ?_
    refine RW.guardT rfl rfl h1 ?_
    refine RW.lenS Tryd.underlying9 rfl rfl ?_
    refine RW.guardT rfl rfl h1 ?_
    refine RW.sliceStrH p.length Tryd.underlying9 rfl rfl rfl (by first | rfl | omega) (by first | omega | (simp; done) | (simp; omega)) ?_
    refine RW.guardT rfl rfl h1 ?_
    refine RW.move rfl rfl ?_
    refine RW.guardT rfl rfl h1 ?_
    refine RW.eqlS rfl rfl rfl ?_
    refine RW.pickB rfl rfl h1 rfl ?_
    refine RW.assign rfl rfl ?_
    refine RW.nil (EX.seq (CW.ret ?_))
    refine EX.fin1 Tryd.results93 rfl (fun wz hw => ?_)
    -- mq: done
    exact ⟨rfl, hw.ext⟩
  · skip
    have h1p := of_decide_eq_false h1
    refine RW.guardF rfl rfl rfl h1 ?_
    refine RW.guardF rfl rfl rfl h1 ?_
    refine RW.guardF rfl rfl rfl h1 ?_
    refine RW.guardF rfl rfl rfl h1 ?_
    refine RW.guardF rfl rfl rfl h1 ?_
    refine RW.guardF rfl rfl rfl h1 ?_
    refine RW.pickC rfl rfl h1 rfl ?_
    refine RW.assign rfl rfl ?_
    refine RW.nil (EX.seq (CW.ret ?_))
    refine EX.fin1 Tryd.results93 rfl (fun wz hw => ?_)
    -- mq: done
    refine ⟨?_, hw.ext⟩
    rw [decide_eq_false (fun e => h1p (by have := congrArg List.length e; simp at this; omega))]
theorem cutPrefixL_c (w : World) (s p : List UInt8) (hs : s.length ≤ 9223372036854775807) (hp : p.length ≤ 9223372036854775807) : Calls Tryd.prog 73 [.string (bs s), .string (bs p)].toArray w (fun e w' => e = .returned (.tuple #[.string (bs (if s.take p.length = p then s.drop p.length else s)), .bool (decide (s.take p.length = p))]) ∧ Ext [] w w') := by
  refine calls (n := 15) Tryd.func73 rfl Tryd.ntmps73 rfl ?_
  refine CW.sub (H' := SH w [] []) ?_ (Sub.refl _) (fun x hx => SH.start' _ _ hx)
  refine CW.seq (CW.region ?_)
  refine RW.assign rfl rfl ?_
  refine RW.assign rfl rfl ?_
  refine RW.nil (EX.seq (CW.seq (CW.seq (CW.region ?_))))
  refine RW.move rfl rfl ?_
  refine RW.move rfl rfl ?_
  -- mq: op 2: ('Op.call', ('Call.mk', ('Callee.value', ('Operand.func', '93')), ('arr', ('Operand.tmp', '6'), ('Operand.tmp', '7')), ('arr', '9', '9'))) -> slot 8 ("strings.go:88")
  refine RW.call rfl caHasPrefixL rfl (fun w' _ => hasPrefix_c w' s p hs hp) ?_
  refine RW.not_ rfl rfl ?_
  refine RW.nil (EX.seq ?_)
  -- mq: cond
  by_cases h : s.take p.length = p
  · skip
    refine CW.condF rfl ((by rw [decide_eq_true h]; rfl)) ?_
    have hl : p.length ≤ s.length := by have := congrArg List.length h; simp at this; omega
    refine CW.skip (EX.seq (CW.seq (CW.region ?_)))
    refine RW.move rfl rfl ?_
    refine RW.move rfl rfl ?_
    refine RW.lenS Tryd.underlying9 rfl rfl ?_
    refine RW.sliceStrL p.length Tryd.underlying9 rfl rfl rfl (by first | rfl | omega) (by first | omega | (simp; done) | (simp; omega)) ?_
    refine RW.assign rfl rfl ?_
    refine RW.assign rfl rfl ?_
    refine RW.nil (EX.seq (CW.ret ?_))
    refine EX.fin2 Tryd.results73 rfl rfl (fun wz hw => ?_)
    -- mq: done
    exact ⟨by rw [if_pos h, decide_eq_true h], hw.ext⟩
  · skip
    refine CW.condT rfl ((by rw [decide_eq_false h]; rfl)) ?_
    refine CW.seq (CW.region ?_)
    refine RW.move rfl rfl ?_
    refine RW.assign rfl rfl ?_
    refine RW.assign rfl rfl ?_
    refine RW.nil (EX.seq (CW.ret (EX.seqR ?_)))
    refine EX.fin2 Tryd.results73 rfl rfl (fun wz hw => ?_)
    -- mq: done
    exact ⟨by rw [if_neg h, decide_eq_false h], hw.ext⟩
theorem cutPrefix_c (w : World) (s p : List UInt8) (hs : s.length ≤ 9223372036854775807) (hp : p.length ≤ 9223372036854775807) : Calls Tryd.prog 58 [.string (bs s), .string (bs p)].toArray w (fun e w' => e = .returned (.tuple #[.string (bs (if s.take p.length = p then s.drop p.length else s)), .bool (decide (s.take p.length = p))]) ∧ Ext [] w w') := by
  refine calls (n := 11) Tryd.func58 rfl Tryd.ntmps58 rfl ?_
  refine CW.sub (H' := SH w [] []) ?_ (Sub.refl _) (fun x hx => SH.start' _ _ hx)
  refine CW.seq (CW.region ?_)
  refine RW.assign rfl rfl ?_
  refine RW.assign rfl rfl ?_
  refine RW.nil (EX.seq (CW.seq (CW.region ?_)))
  refine RW.move rfl rfl ?_
  refine RW.move rfl rfl ?_
  -- mq: op 2: ('Op.call', ('Call.mk', ('Callee.value', ('Operand.func', '73')), ('arr', ('Operand.tmp', '6'), ('Operand.tmp', '7')), ('arr', '9', '9'))) -> slot 8 ("strings.go:1280")
  refine RW.call rfl caCutPrefixL rfl (fun w' _ => cutPrefixL_c w' s p hs hp) ?_
  refine RW.extract rfl rfl rfl ?_
  refine RW.extract rfl rfl rfl ?_
  refine RW.assign rfl rfl ?_
  refine RW.assign rfl rfl ?_
  refine RW.nil (EX.seq (CW.ret ?_))
  refine EX.fin2 Tryd.results58 rfl rfl (fun wz hw => ?_)
  -- mq: done
  exact ⟨rfl, hw.ext⟩
end Go.Proofs.YtnkdabjahmjdoaaDoor.Mq
