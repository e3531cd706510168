/- strings.CutSuffix -/
import Derived.Test.YtnkdabjahmjdoaaDoorBits
import Derived.Test.YtnkdabjahmjdoaaDoorTypes
namespace Go.Proofs.YtnkdabjahmjdoaaDoor.Mq
open Go Go.RowKit Go.Proofs

theorem caCutSuffixL : CaT Tryd.prog 59 := CaT.of Tryd.func59 (by kernel_rfl) (by kernel_rfl)
theorem caHasSuffixL : CaT Tryd.prog 74 := CaT.of Tryd.func74 (by kernel_rfl) (by kernel_rfl)
theorem caCutSuffix : CaT Tryd.prog 47 := CaT.of Tryd.func47 (by kernel_rfl) (by kernel_rfl)
def sufB (s p : List UInt8) : Bool := decide (s.drop (s.length - p.length) = p)
theorem sufB_len {s p : List UInt8} (h : sufB s p = true) : p.length ≤ s.length := by
  have h' := congrArg List.length (of_decide_eq_true h)
  rw [List.length_drop] at h'
  omega
theorem hasSuffix_c (w : World) (s p : List UInt8) (hs : s.length ≤ 9223372036854775807) (hp : p.length ≤ 9223372036854775807) : Calls Tryd.prog 74 [.string (bs s), .string (bs p)].toArray w (fun e w' => e = .returned (.bool (sufB s p)) ∧ Ext [] w w') := by
  refine calls (n := 21) Tryd.func74 rfl Tryd.ntmps74 rfl ?_
  refine CW.sub (H' := SH w [] []) ?_ (Sub.refl _) (fun x hx => SH.start' _ _ hx)
  refine CW.seq (CW.region ?_)
  refine RW.assign rfl rfl ?_
  refine RW.nil (EX.seq (CW.seq (CW.region ?_)))
  refine RW.move rfl rfl ?_
  refine RW.lenS Tryd.underlying9 rfl rfl ?_
  refine RW.move rfl rfl ?_
  refine RW.lenS Tryd.underlying9 rfl rfl ?_
  refine RW.geq rfl rfl rfl ?_
  refine RW.move rfl rfl ?_
  -- mq: guard slot 10
  refine RW.casesB 10 rfl (fun h1 => ?_) (fun h1 => ?_)
  · skip
    have h1p := of_decide_eq_true h1
    refine RW.guardT rfl rfl h1 ?_
    refine RW.move rfl rfl ?_
    refine RW.guardT rfl rfl h1 ?_
    refine RW.move rfl rfl ?_
    refine RW.guardT rfl rfl h1 ?_
    refine RW.lenS Tryd.underlying9 rfl rfl ?_
    refine RW.guardT rfl rfl h1 ?_
    refine RW.move rfl rfl ?_
    refine RW.guardT rfl rfl h1 ?_
    refine RW.lenS Tryd.underlying9 rfl rfl ?_
    refine RW.guardT rfl rfl h1 ?_
    refine RW.sub_ (r := ((s.length - p.length : Nat) : Int)) rfl rfl rfl (by rw [wrap64 (by omega) (by omega)]; omega) ?_
    refine RW.guardT rfl rfl h1 ?_
    refine RW.sliceStrL (s.length - p.length) Tryd.underlying9 rfl rfl rfl (by first | rfl | omega) (by first | omega | (simp; done) | (simp; omega)) ?_
    refine RW.guardT rfl rfl h1 ?_
    refine RW.move rfl rfl ?_
    refine RW.guardT rfl rfl h1 ?_
    refine RW.eqlS rfl rfl rfl ?_
    refine RW.pickB rfl rfl h1 rfl ?_
    refine RW.assign rfl rfl ?_
    refine RW.nil (EX.seq (CW.ret ?_))
    refine EX.fin1 Tryd.results74 rfl (fun wz hw => ?_)
    -- mq: done
    exact ⟨rfl, hw.ext⟩
  · skip
    have h1p := of_decide_eq_false h1
    refine RW.guardF rfl rfl rfl h1 ?_
    refine RW.guardF rfl rfl rfl h1 ?_
    refine RW.guardF rfl rfl rfl h1 ?_
    refine RW.guardF rfl rfl rfl h1 ?_
    refine RW.guardF rfl rfl rfl h1 ?_
    refine RW.guardF rfl rfl rfl h1 ?_
    refine RW.guardF rfl rfl rfl h1 ?_
    refine RW.guardF rfl rfl rfl h1 ?_
    refine RW.guardF rfl rfl rfl h1 ?_
    refine RW.pickC rfl rfl h1 rfl ?_
    refine RW.assign rfl rfl ?_
    refine RW.nil (EX.seq (CW.ret ?_))
    refine EX.fin1 Tryd.results74 rfl (fun wz hw => ?_)
    -- mq: done
    refine ⟨?_, hw.ext⟩
    rw [show sufB s p = false from Bool.eq_false_iff.2 (fun e => h1p (by have := sufB_len e; omega))]
theorem cutSuffixL_c (w : World) (s p : List UInt8) (hs : s.length ≤ 9223372036854775807) (hp : p.length ≤ 9223372036854775807) : Calls Tryd.prog 59 [.string (bs s), .string (bs p)].toArray w (fun e w' => e = .returned (.tuple #[.string (bs (if sufB s p = true then s.take (s.length - p.length) else s)), .bool (sufB s p)]) ∧ Ext [] w w') := by
  refine calls (n := 18) Tryd.func59 rfl Tryd.ntmps59 rfl ?_
  refine CW.sub (H' := SH w [] []) ?_ (Sub.refl _) (fun x hx => SH.start' _ _ hx)
  refine CW.seq (CW.region ?_)
  refine RW.assign rfl rfl ?_
  refine RW.assign rfl rfl ?_
  refine RW.nil (EX.seq (CW.seq (CW.seq (CW.region ?_))))
  refine RW.move rfl rfl ?_
  refine RW.move rfl rfl ?_
  -- mq: op 2: ('Op.call', ('Call.mk', ('Callee.value', ('Operand.func', '74')), ('arr', ('Operand.tmp', '6'), ('Operand.tmp', '7')), ('arr', '9', '9'))) -> slot 8 ("strings.go:95")
  refine RW.call rfl caHasSuffixL rfl (fun w' _ => hasSuffix_c w' s p hs hp) ?_
  refine RW.not_ rfl rfl ?_
  refine RW.nil (EX.seq ?_)
  -- mq: cond
  by_cases h : sufB s p = true
  · skip
    refine CW.condF rfl ((by rw [h]; rfl)) ?_
    have hl := sufB_len h
    refine CW.skip (EX.seq (CW.seq (CW.region ?_)))
    refine RW.move rfl rfl ?_
    refine RW.move rfl rfl ?_
    refine RW.lenS Tryd.underlying9 rfl rfl ?_
    refine RW.move rfl rfl ?_
    refine RW.lenS Tryd.underlying9 rfl rfl ?_
    refine RW.sub_ (r := ((s.length - p.length : Nat) : Int)) rfl rfl rfl (by rw [wrap64 (by omega) (by omega)]; omega) ?_
    refine RW.sliceStrH (s.length - p.length) Tryd.underlying9 rfl rfl rfl (by first | rfl | omega) (by first | omega | (simp; done) | (simp; omega)) ?_
    refine RW.assign rfl rfl ?_
    refine RW.assign rfl rfl ?_
    refine RW.nil (EX.seq (CW.ret ?_))
    refine EX.fin2 Tryd.results59 rfl rfl (fun wz hw => ?_)
    -- mq: done
    exact ⟨by rw [if_pos h, h], hw.ext⟩
  · skip
    have hf : sufB s p = false := by simpa using h
    refine CW.condT rfl ((by rw [hf]; rfl)) ?_
    refine CW.seq (CW.region ?_)
    refine RW.move rfl rfl ?_
    refine RW.assign rfl rfl ?_
    refine RW.assign rfl rfl ?_
    refine RW.nil (EX.seq (CW.ret (EX.seqR ?_)))
    refine EX.fin2 Tryd.results59 rfl rfl (fun wz hw => ?_)
    -- mq: done
    exact ⟨by rw [if_neg h, hf], hw.ext⟩
theorem cutSuffix_c (w : World) (s p : List UInt8) (hs : s.length ≤ 9223372036854775807) (hp : p.length ≤ 9223372036854775807) : Calls Tryd.prog 47 [.string (bs s), .string (bs p)].toArray w (fun e w' => e = .returned (.tuple #[.string (bs (if sufB s p = true then s.take (s.length - p.length) else s)), .bool (sufB s p)]) ∧ Ext [] w w') := by
  refine calls (n := 11) Tryd.func47 rfl Tryd.ntmps47 rfl ?_
  refine CW.sub (H' := SH w [] []) ?_ (Sub.refl _) (fun x hx => SH.start' _ _ hx)
  refine CW.seq (CW.region ?_)
  refine RW.assign rfl rfl ?_
  refine RW.assign rfl rfl ?_
  refine RW.nil (EX.seq (CW.seq (CW.region ?_)))
  refine RW.move rfl rfl ?_
  refine RW.move rfl rfl ?_
  -- mq: op 2: ('Op.call', ('Call.mk', ('Callee.value', ('Operand.func', '59')), ('arr', ('Operand.tmp', '6'), ('Operand.tmp', '7')), ('arr', '9', '9'))) -> slot 8 ("strings.go:1288")
  refine RW.call rfl caCutSuffixL rfl (fun w' _ => cutSuffixL_c w' s p hs hp) ?_
  refine RW.extract rfl rfl rfl ?_
  refine RW.extract rfl rfl rfl ?_
  refine RW.assign rfl rfl ?_
  refine RW.assign rfl rfl ?_
  refine RW.nil (EX.seq (CW.ret ?_))
  refine EX.fin2 Tryd.results47 rfl rfl (fun wz hw => ?_)
  -- mq: done
  exact ⟨rfl, hw.ext⟩
theorem sufB_snoc (p : List UInt8) (c : UInt8) : sufB (p ++ [c]) [c] = true := by
  unfold sufB
  rw [List.length_append, List.length_singleton, Nat.add_sub_cancel, List.drop_left]
  exact decide_eq_true rfl
theorem sufB_no {s : List UInt8} {c : UInt8} (h : c ∉ s) : sufB s [c] = false := by
  refine decide_eq_false (fun e => h ?_)
  have : c ∈ s.drop (s.length - [c].length) := by rw [e]; simp
  exact List.mem_of_mem_drop this
end Go.Proofs.YtnkdabjahmjdoaaDoor.Mq
