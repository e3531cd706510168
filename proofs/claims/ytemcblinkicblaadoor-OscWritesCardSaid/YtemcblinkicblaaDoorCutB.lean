/- strings.Cut at a byte (the first part of param/XPm1) -/
import Derived.Test.YtemcblinkicblaaDoorPmData
import Derived.Shelf.GgClosure.StringsIndexFuncTop
namespace Go.Proofs.YtemcblinkicblaaDoor.Mq
open Go Go.RowKit Go.Proofs

theorem caSlIB : CaT Tryd.prog 60 := CaT.of Tryd.func60 (by kernel_rfl) (by kernel_rfl)
theorem caSlIx : CaT Tryd.prog 70 := CaT.of Tryd.func70 (by kernel_rfl) (by kernel_rfl)
theorem caSlCut : CaT Tryd.prog 55 := CaT.of Tryd.func55 (by kernel_rfl) (by kernel_rfl)
theorem slIndexByte_c (w : World) (s : List UInt8) (c : UInt8) :
    Calls Tryd.prog 60 [.string (bs s), .int .u8 (c.toNat : Int)].toArray w (fun e w' => e = .returned (.int .i64 (Lib.indexByte s c)) ∧ w' = w) := by
  refine calls (n := 8) Tryd.func60 rfl Tryd.ntmps60 rfl ?_
  refine CW.seq (CW.region ?_)
  refine RW.assign rfl rfl ?_
  refine RW.nil (EX.seq (CW.seq (CW.region ?_)))
  refine RW.move rfl rfl ?_
  refine RW.move rfl rfl ?_
  -- mq: op 2: ('Op.call', ('Call.mk', ('Callee.value', ('Operand.func', '76')), ('arr', ('Operand.tmp', '5'), ('Operand.tmp', '6')), ('arr', '9', '5'))) -> slot 7 ("strings.go:25")
  refine RW.ext1 rfl rfl (fun w'' _ => indexByte_run Tryd.func76 (by kernel_rfl) (by kernel_rfl) (by kernel_rfl) (by kernel_rfl) s c w'') ?_
  refine RW.assign rfl rfl ?_
  refine RW.nil (EX.seq (CW.ret ?_))
  refine EX.fin1 Tryd.results60 rfl (fun wz hw => ?_)
  -- mq: done
  exact ⟨rfl, hw⟩
theorem slIndex_c (w : World) (s : List UInt8) (c : UInt8) :
    Calls Tryd.prog 70 [.string (bs s), .string (bs [c])].toArray w (fun e w' => e = .returned (.int .i64 (Lib.indexByte s c)) ∧ w' = w) := by
  refine calls (n := 143) Tryd.func70 rfl Tryd.ntmps70 rfl ?_
  refine CW.seq (CW.region ?_)
  refine RW.assign rfl rfl ?_
  refine RW.nil (EX.seq (CW.seq (CW.region ?_)))
  refine RW.move rfl rfl ?_
  refine RW.lenS Tryd.underlying9 rfl rfl ?_
  refine RW.assign rfl rfl ?_
  refine RW.nil (EX.seq (CW.seq (CW.block (CW.seq (CW.region ?_)))))
  refine RW.move rfl rfl ?_
  refine RW.eqlI rfl rfl rfl ?_
  refine RW.move rfl rfl ?_
  -- mq: guard slot 19
  refine RW.guardT rfl rfl (by simp) ?_
  refine RW.move rfl rfl ?_
  refine RW.guardT rfl rfl (by simp) ?_
  refine RW.move rfl rfl ?_
  refine RW.guardT rfl rfl (by simp) ?_
  refine RW.eqlS rfl rfl rfl ?_
  refine RW.pickC rfl rfl (by simp) rfl ?_
  refine RW.assign rfl rfl ?_
  refine RW.nil (EX.seq ?_)
  -- mq: cond
  first | refine CW.condD rfl (fun h1 => ?_) (fun h1 => ?_) | refine CW.cond rfl (fun h1 => ?_) (fun h1 => ?_)
  · skip
    refine CW.seq (CW.region ?_)
    refine RW.assign rfl rfl ?_
    refine RW.nil (EX.seq (CW.ret (EX.bkR (EX.seqR ?_))))
    refine EX.fin1 Tryd.results70 rfl (fun wz hw => ?_)
    -- mq: done
    refine ⟨?_, hw⟩
    rw [← h1]
    simp [Lib.indexByte]
  · skip
    refine CW.seq (CW.region ?_)
    refine RW.move rfl rfl ?_
    refine RW.eqlI rfl rfl rfl ?_
    refine RW.assign rfl rfl ?_
    refine RW.nil (EX.seq ?_)
    -- mq: cond
    refine CW.condT rfl ((by simp)) ?_
    refine CW.seq (CW.region ?_)
    refine RW.move rfl rfl ?_
    refine RW.move rfl rfl ?_
    refine RW.ixStr (q := 0) Tryd.underlying9 rfl rfl rfl (by rfl) (rfl : [c][0]? = some c) ?_
    -- mq: op 3: ('Op.call', ('Call.mk', ('Callee.value', ('Operand.func', '60')), ('arr', ('Operand.tmp', '27'), ('Operand.tmp', '29')), ('arr', '9', '5'))) -> slot 30 ("strings.go:34")
    refine RW.callP rfl caSlIB rfl (fun w' _ => slIndexByte_c w' s c) ?_
    refine RW.assign rfl rfl ?_
    refine RW.nil (EX.seq (CW.ret (EX.bkR (EX.seqR ?_))))
    refine EX.fin1 Tryd.results70 rfl (fun wz hw => ?_)
    -- mq: done
    exact ⟨rfl, hw⟩
def cutV (s : List UInt8) (c : UInt8) : Value := if c ∈ s then .tuple #[.string (bs (s.takeWhile (· ≠ c))), .string (bs ((s.dropWhile (· ≠ c)).drop 1)), .bool true] else .tuple #[.string (bs s), .string (bs []), .bool false]
theorem slCut_c (w : World) (s : List UInt8) (c : UInt8) (hs : s.length ≤ 1000000) :
    Calls Tryd.prog 55 [.string (bs s), .string (bs [c])].toArray w (fun e w' => e = .returned (cutV s c) ∧ Ext [] w w') := by
  refine calls (n := 23) Tryd.func55 rfl Tryd.ntmps55 rfl ?_
  refine CW.sub (H' := SH w [] []) ?_ (Sub.refl _) (fun x hx => SH.start' _ _ hx)
  refine CW.seq (CW.region ?_)
  refine RW.assign rfl rfl ?_
  refine RW.assign rfl rfl ?_
  refine RW.assign rfl rfl ?_
  refine RW.nil (EX.seq (CW.seq (CW.seq (CW.region ?_))))
  refine RW.move rfl rfl ?_
  refine RW.move rfl rfl ?_
  -- mq: op 2: ('Op.call', ('Call.mk', ('Callee.value', ('Operand.func', '70')), ('arr', ('Operand.tmp', '8'), ('Operand.tmp', '9')), ('arr', '9', '9'))) -> slot 10 ("strings.go:81")
  refine RW.callP rfl caSlIx rfl (fun w' _ => slIndex_c w' s c) ?_
  refine RW.assign rfl rfl ?_
  refine RW.nil (EX.seq (CW.seq (CW.region ?_)))
  refine RW.move rfl rfl ?_
  refine RW.geq rfl rfl rfl ?_
  refine RW.nil (EX.seq ?_)
  -- mq: cond
  rcases ib_cases s c with ⟨hno, hib⟩ | ⟨pre, post, hpp, hpre, hib⟩
  · skip
    rw [hib]
    refine CW.condF rfl (rfl) ?_
    refine CW.skip (EX.seq (CW.seq (CW.region ?_)))
    refine RW.move rfl rfl ?_
    refine RW.assign rfl rfl ?_
    refine RW.assign rfl rfl ?_
    refine RW.assign rfl rfl ?_
    refine RW.nil (EX.seq (CW.ret ?_))
    refine EX.fin3 Tryd.results55 rfl rfl rfl (fun wz hw => ?_)
    -- mq: done
    exact ⟨by rw [cutV, if_neg hno], hw.ext⟩
  · skip
    rw [hib]
    refine CW.condT rfl ((by simp)) ?_
    have hl : pre.length + 1 ≤ s.length := by rw [hpp]; simp
    refine CW.seq ?_
    refine CW.drawq mixed (by kernel_rfl) (fun _ hw => hw.drew) ?_
    refine DRq.cons rfl (RW.move rfl rfl RW.jn) ?_
    refine DRq.cons rfl (RW.move rfl rfl RW.jn) ?_
    refine DRq.cons rfl (RW.sliceStrH pre.length Tryd.underlying9 rfl rfl rfl (by first | rfl | omega) (by first | omega | (simp; done) | (simp; omega)) RW.jn) ?_
    refine DRq.cons rfl (RW.move rfl rfl RW.jn) ?_
    refine DRq.cons rfl (RW.move rfl rfl RW.jn) ?_
    refine DRq.cons rfl (RW.move rfl rfl RW.jn) ?_
    refine DRq.cons rfl (RW.lenS Tryd.underlying9 rfl rfl RW.jn) ?_
    refine DRq.cons rfl (RW.add (r := ((pre.length + 1 : Nat) : Int)) rfl rfl rfl (by rw [wrap64 (by simp; omega) (by simp; omega)]; simp) RW.jn) ?_
    refine DRq.cons rfl (RW.sliceStrL (pre.length + 1) Tryd.underlying9 rfl rfl rfl (by first | rfl | omega) (by first | omega | (simp; done) | (simp; omega)) RW.jn) ?_
    refine DRq.cons rfl (RW.assign rfl rfl RW.jn) ?_
    refine DRq.cons rfl (RW.assign rfl rfl RW.jn) ?_
    refine DRq.cons rfl (RW.assign rfl rfl RW.jn) ?_
    refine DRq.nil (EX.seq (CW.ret (EX.seqR ?_)))
    refine EX.fin3 Tryd.results55 rfl rfl rfl (fun wz hw => ?_)
    -- mq: done
    refine ⟨?_, hw.ext⟩
    rw [cutV, if_pos (by rw [hpp]; simp), hpp, (cut_pre hpre).1, (cut_pre hpre).2, List.take_left', show pre ++ c :: post = (pre ++ [c]) ++ post by simp, List.drop_left'] <;> simp
theorem Cut_c (w : World) (s : List UInt8) (c : UInt8) (hs : s.length ≤ 1000000) :
    Calls Tryd.prog 39 [.string (bs s), .string (bs [c])].toArray w (fun e w' => e = .returned (cutV s c) ∧ Ext [] w w') := by
  refine calls (n := 13) Tryd.func39 rfl Tryd.ntmps39 rfl ?_
  refine CW.sub (H' := SH w [] []) ?_ (Sub.refl _) (fun x hx => SH.start' _ _ hx)
  refine CW.seq (CW.region ?_)
  refine RW.assign rfl rfl ?_
  refine RW.assign rfl rfl ?_
  refine RW.assign rfl rfl ?_
  refine RW.nil (EX.seq (CW.seq (CW.region ?_)))
  refine RW.move rfl rfl ?_
  refine RW.move rfl rfl ?_
  -- mq: op 2: ('Op.call', ('Call.mk', ('Callee.value', ('Operand.func', '55')), ('arr', ('Operand.tmp', '7'), ('Operand.tmp', '8')), ('arr', '9', '9'))) -> slot 9 ("strings.go:1272")
  refine RW.call rfl caSlCut rfl (fun w' _ => slCut_c w' s c hs) ?_
  obtain ⟨x, y, b, hcv⟩ : ∃ x y b, cutV s c = .tuple #[.string x, .string y, .bool b] := by unfold cutV; split <;> exact ⟨_, _, _, rfl⟩
  rw [hcv]
  refine RW.extract rfl rfl rfl ?_
  refine RW.extract rfl rfl rfl ?_
  refine RW.extract rfl rfl rfl ?_
  refine RW.assign rfl rfl ?_
  refine RW.assign rfl rfl ?_
  refine RW.assign rfl rfl ?_
  refine RW.nil (EX.seq (CW.ret ?_))
  refine EX.fin3 Tryd.results39 rfl rfl rfl (fun wz hw => ?_)
  -- mq: done
  exact ⟨rfl, hw.ext⟩
end Go.Proofs.YtemcblinkicblaaDoor.Mq
