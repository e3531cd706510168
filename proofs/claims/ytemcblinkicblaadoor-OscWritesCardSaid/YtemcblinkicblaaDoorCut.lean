/- strings.CutPrefix -/
import Derived.Test.YtemcblinkicblaaDoorBits
import Derived.Test.YtemcblinkicblaaDoorTypes
namespace Go.Proofs.YtemcblinkicblaaDoor.Mq
open Go Go.RowKit Go.Proofs

theorem caCutPrefixL : CaT Tryd.prog 46 := CaT.of Tryd.func46 (by kernel_rfl) (by kernel_rfl)
theorem caHasPrefixL : CaT Tryd.prog 52 := CaT.of Tryd.func52 (by kernel_rfl) (by kernel_rfl)
theorem hasPrefix_c (w : World) (s p : List UInt8) (hs : s.length ≤ 9223372036854775807) (hp : p.length ≤ 9223372036854775807) : Calls Tryd.prog 52 [.string (bs s), .string (bs p)].toArray w (fun e w' => e = .returned (.bool (decide (s.take p.length = p))) ∧ Ext [] w w') := by
  refine calls (n := 18) Tryd.func52 rfl Tryd.ntmps52 rfl ?_
  refine CW.sub (H' := SH w [] []) ?_ (Sub.refl _) (fun x hx => SH.start' _ _ hx)
  refine CW.seq (CW.region ?_)
  refine RW.assign rfl rfl ?_
  refine RW.nil (EX.seq (CW.seq (CW.region ?_)))
  refine RW.move rfl rfl ?_
  refine RW.lenS Tryd.underlying9 rfl rfl ?_
  refine RW.move rfl rfl ?_
  refine RW.lenS Tryd.underlying9 rfl rfl ?_
  refine RW.geq rfl rfl rfl ?_
  refine RW.move rfl rfl ?_
  -- mq: guard slot 10
  refine RW.casesB 10 rfl (fun h1 => ?_) (fun h1 => ?_)
  · skip
    have h1p := of_decide_eq_true h1
    refine RW.guardT rfl rfl h1 ?_
    refine RW.move rfl rfl ?_
    refine RW.guardT rfl rfl h1 ?_
    refine RW.move rfl rfl ?_
    refine RW.guardT rfl rfl h1 ?_
    refine RW.lenS Tryd.underlying9 rfl rfl ?_
    refine RW.guardT rfl rfl h1 ?_
    refine RW.sliceStrH p.length Tryd.underlying9 rfl rfl rfl (by first | rfl | omega) (by first | omega | (simp; done) | (simp; omega)) ?_
    refine RW.guardT rfl rfl h1 ?_
    refine RW.move rfl rfl ?_
    refine RW.guardT rfl rfl h1 ?_
    refine RW.eqlS rfl rfl rfl ?_
    refine RW.pickB rfl rfl h1 rfl ?_
    refine RW.assign rfl rfl ?_
    refine RW.nil (EX.seq (CW.ret ?_))
    refine EX.fin1 Tryd.results52 rfl (fun wz hw => ?_)
    -- mq: done
    exact ⟨rfl, hw.ext⟩
  · skip
    have h1p := of_decide_eq_false h1
    refine RW.guardF rfl rfl rfl h1 ?_
    refine RW.guardF rfl rfl rfl h1 ?_
    refine RW.guardF rfl rfl rfl h1 ?_
    refine RW.guardF rfl rfl rfl h1 ?_
    refine RW.guardF rfl rfl rfl h1 ?_
    refine RW.guardF rfl rfl rfl h1 ?_
    refine RW.pickC rfl rfl h1 rfl ?_
    refine RW.assign rfl rfl ?_
    refine RW.nil (EX.seq (CW.ret ?_))
    refine EX.fin1 Tryd.results52 rfl (fun wz hw => ?_)
    -- mq: done
    refine ⟨?_, hw.ext⟩
    rw [decide_eq_false (fun e => h1p (by have := congrArg List.length e; simp at this; omega))]
theorem cutPrefixL_c (w : World) (s p : List UInt8) (hs : s.length ≤ 9223372036854775807) (hp : p.length ≤ 9223372036854775807) : Calls Tryd.prog 46 [.string (bs s), .string (bs p)].toArray w (fun e w' => e = .returned (.tuple #[.string (bs (if s.take p.length = p then s.drop p.length else s)), .bool (decide (s.take p.length = p))]) ∧ Ext [] w w') := by
  refine calls (n := 15) Tryd.func46 rfl Tryd.ntmps46 rfl ?_
  refine CW.sub (H' := SH w [] []) ?_ (Sub.refl _) (fun x hx => SH.start' _ _ hx)
  refine CW.seq (CW.region ?_)
  refine RW.assign rfl rfl ?_
  refine RW.assign rfl rfl ?_
  refine RW.nil (EX.seq (CW.seq (CW.seq (CW.region ?_))))
  refine RW.move rfl rfl ?_
  refine RW.move rfl rfl ?_
  -- mq: op 2: ('Op.call', ('Call.mk', ('Callee.value', ('Operand.func', '52')), ('arr', ('Operand.tmp', '6'), ('Operand.tmp', '7')), ('arr', '9', '9'))) -> slot 8 ("strings.go:88")
  refine RW.call rfl caHasPrefixL rfl (fun w' _ => hasPrefix_c w' s p hs hp) ?_
  refine RW.not_ rfl rfl ?_
  refine RW.nil (EX.seq ?_)
  -- mq: cond
  by_cases h : s.take p.length = p
  · skip
    refine CW.condF rfl ((by rw [decide_eq_true h]; rfl)) ?_
    have hl : p.length ≤ s.length := by have := congrArg List.length h; simp at this; omega
    refine CW.skip (EX.seq (CW.seq (CW.region ?_)))
    refine RW.move rfl rfl ?_
    refine RW.move rfl rfl ?_
    refine RW.lenS Tryd.underlying9 rfl rfl ?_
    refine RW.sliceStrL p.length Tryd.underlying9 rfl rfl rfl (by first | rfl | omega) (by first | omega | (simp; done) | (simp; omega)) ?_
    refine RW.assign rfl rfl ?_
    refine RW.assign rfl rfl ?_
    refine RW.nil (EX.seq (CW.ret ?_))
    refine EX.fin2 Tryd.results46 rfl rfl (fun wz hw => ?_)
    -- mq: done
    exact ⟨by rw [if_pos h, decide_eq_true h], hw.ext⟩
  · skip
    refine CW.condT rfl ((by rw [decide_eq_false h]; rfl)) ?_
    refine CW.seq (CW.region ?_)
    refine RW.move rfl rfl ?_
    refine RW.assign rfl rfl ?_
    refine RW.assign rfl rfl ?_
    refine RW.nil (EX.seq (CW.ret (EX.seqR ?_)))
    refine EX.fin2 Tryd.results46 rfl rfl (fun wz hw => ?_)
    -- mq: done
    exact ⟨by rw [if_neg h, decide_eq_false h], hw.ext⟩
theorem cutPrefix_c (w : World) (s p : List UInt8) (hs : s.length ≤ 9223372036854775807) (hp : p.length ≤ 9223372036854775807) : Calls Tryd.prog 25 [.string (bs s), .string (bs p)].toArray w (fun e w' => e = .returned (.tuple #[.string (bs (if s.take p.length = p then s.drop p.length else s)), .bool (decide (s.take p.length = p))]) ∧ Ext [] w w') := by
  refine calls (n := 11) Tryd.func25 rfl Tryd.ntmps25 rfl ?_
  refine CW.sub (H' := SH w [] []) ?_ (Sub.refl _) (fun x hx => SH.start' _ _ hx)
  refine CW.seq (CW.region ?_)
  refine RW.assign rfl rfl ?_
  refine RW.assign rfl rfl ?_
  refine RW.nil (EX.seq (CW.seq (CW.region ?_)))
  refine RW.move rfl rfl ?_
  refine RW.move rfl rfl ?_
  -- mq: op 2: ('Op.call', ('Call.mk', ('Callee.value', ('Operand.func', '46')), ('arr', ('Operand.tmp', '6'), ('Operand.tmp', '7')), ('arr', '9', '9'))) -> slot 8 ("strings.go:1280")
  refine RW.call rfl caCutPrefixL rfl (fun w' _ => cutPrefixL_c w' s p hs hp) ?_
  refine RW.extract rfl rfl rfl ?_
  refine RW.extract rfl rfl rfl ?_
  refine RW.assign rfl rfl ?_
  refine RW.assign rfl rfl ?_
  refine RW.nil (EX.seq (CW.ret ?_))
  refine EX.fin2 Tryd.results25 rfl rfl (fun wz hw => ?_)
  -- mq: done
  exact ⟨rfl, hw.ext⟩
end Go.Proofs.YtemcblinkicblaaDoor.Mq
