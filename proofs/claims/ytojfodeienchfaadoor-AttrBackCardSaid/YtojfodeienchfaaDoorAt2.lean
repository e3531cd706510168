/- attributes: bits of the flags; walks of Right, ref.Right -/
import Derived.Test.YtojfodeienchfaaDoorAt1
namespace Go.Proofs.YtojfodeienchfaaDoor.Mq
open Go Go.RowKit Go.Proofs

theorem wrapI64 {z : Int} (h1 : 0 ≤ z) (h2 : z < 9223372036854775808) : IntKind.i64.wrap z = z := by simp [IntKind.wrap, IntKind.bits, IntKind.signed]; omega
theorem wrapZ {m : Nat} (h : m < 18446744073709551616) : IntKind.i64.wrap (m : Int) = 0 ↔ m = 0 := by
  simp [IntKind.wrap, IntKind.bits, IntKind.signed]; omega
theorem low10 (x : BitVec 64) : (x &&& ~~~ (1023#64)).toNat = 0 ↔ x.toNat < 1024 := by
  constructor
  · intro h
    have hz : x &&& ~~~ (1023#64) = 0#64 := BitVec.eq_of_toNat_eq (by rw [h]; rfl)
    refine Nat.lt_pow_two_of_testBit (n := 10) x.toNat fun i hi => ?_
    by_cases h64 : i < 64
    · have h1 : (x &&& ~~~ (1023#64)).getLsbD i = (0#64).getLsbD i := by rw [hz]
      have h2 : (1023#64).getLsbD i = false := by
        rw [BitVec.getLsbD_ofNat, Nat.testBit_lt_two_pow (Nat.lt_of_lt_of_le (by decide : 1023 < 2 ^ 10) (Nat.pow_le_pow_right (by decide) hi))]; simp
      rw [BitVec.getLsbD_and, BitVec.getLsbD_not, h2, decide_eq_true h64, BitVec.getLsbD_zero] at h1
      exact (Bool.and_true _).symm.trans h1
    · exact Nat.testBit_lt_two_pow (Nat.lt_of_lt_of_le x.isLt (Nat.pow_le_pow_right (by decide) (by omega)))
  · intro h
    have hz : x &&& ~~~ (1023#64) = 0#64 := by
      refine BitVec.eq_of_getLsbD_eq fun i hi => ?_
      rw [BitVec.getLsbD_and, BitVec.getLsbD_not]
      by_cases h10 : i < 10
      · have : (1023#64).getLsbD i = true := by
          rw [BitVec.getLsbD_ofNat]
          have : ∀ i, i < 10 → (decide (i < 64) && Nat.testBit 1023 i) = true := by decide
          exact this i h10
        simp [this]
      · have : x.getLsbD i = false := Nat.testBit_lt_two_pow (Nat.lt_of_lt_of_le (show x.toNat < 2 ^ 10 from h) (Nat.pow_le_pow_right (by decide) (by omega)))
        simp [this]
    rw [hz]; rfl
theorem over_is {fl : Int} (h : -9223372036854775808 ≤ fl ∧ fl ≤ 9223372036854775807) :
    IntKind.i64.wrap ((BitVec.ofInt IntKind.i64.bits fl &&& ~~~ BitVec.ofInt IntKind.i64.bits 1023).toNat : Int) = 0 ↔ 0 ≤ fl ∧ fl < 1024 := by
  rw [wrapZ (BitVec.isLt _)]
  refine Iff.trans (low10 (BitVec.ofInt 64 fl)) ?_
  rw [BitVec.toNat_ofInt]
  omega
theorem both_is : ∀ m, m < 1024 → decide (((m &&& 264 : Nat) : Int) ≠ 264) = !(hasF m 8 && hasF m 256) := by decide +kernel
theorem and264 {fl : Int} (h : 0 ≤ fl ∧ fl < 1024) : IntKind.i64.wrap ((BitVec.ofInt IntKind.i64.bits fl &&& BitVec.ofInt IntKind.i64.bits 264).toNat : Int) = ((fl.toNat &&& 264 : Nat) : Int) :=
  and_eq (m := fl.toNat) (n := 264) (by omega) rfl (show fl.toNat < 18446744073709551616 by omega) (by decide) (wrapI64 (by omega) (by
    have := Nat.and_le_right (n := fl.toNat) (m := 264)
    omega))
theorem right_c (w : World) (a : AtV) (h : -9223372036854775808 ≤ a.fl ∧ a.fl ≤ 9223372036854775807) : Calls Tryd.prog 8 [atV a].toArray w (fun e w' => e = .returned (.bool (rightF a)) ∧ Ext [] w w') := by
  refine calls (n := 26) Tryd.func8 rfl Tryd.ntmps8 rfl ?_
  refine CW.sub (H' := SH w [] []) ?_ (Sub.refl _) (fun x hx => SH.start' _ _ hx)
  refine CW.seq (CW.region ?_)
  refine RW.boxA rfl rfl (fun g1 hg1 hf1 => ?_)
  refine RW.assign rfl rfl ?_
  refine RW.nil (EX.seq (CW.seq (CW.region ?_)))
  refine RW.assign rfl rfl ?_
  refine RW.nil (EX.seq (CW.seq (CW.region ?_)))
  refine RW.fieldB fl25x0 rfl rfl ?_
  refine RW.loadBA ag23 rfl rfl (by first | exact Has.head | exact Has.tail Has.head | exact Has.tail (Has.tail Has.head) | exact Has.tail (Has.tail (Has.tail Has.head)) | exact Has.tail (Has.tail (Has.tail (Has.tail Has.head))) | exact Has.tail (Has.tail (Has.tail (Has.tail (Has.tail Has.head)))) | exact Has.tail (Has.tail (Has.tail (Has.tail (Has.tail (Has.tail Has.head)))))) rfl rfl ?_
  -- mq: op 2: ('Op.call', ('Call.mk', ('Callee.value', ('Operand.func', '19')), ('arr', ('Operand.tmp', '5')), ('arr', '23'))) -> slot 6 ("attr.go:37")
  refine RW.call rfl ca19 rfl (fun w' _ => fine_c w' a.fk a.fn) ?_
  refine RW.move rfl rfl ?_
  -- mq: guard slot 7
  refine RW.casesB 7 rfl (fun h1 => ?_) (fun h1 => ?_)
  · skip
    refine RW.guardT rfl rfl h1 ?_
    refine RW.fieldB fl25x1 rfl rfl ?_
    refine RW.guardT rfl rfl h1 ?_
    refine RW.loadBA ag23 rfl rfl (by first | exact Has.head | exact Has.tail Has.head | exact Has.tail (Has.tail Has.head) | exact Has.tail (Has.tail (Has.tail Has.head)) | exact Has.tail (Has.tail (Has.tail (Has.tail Has.head))) | exact Has.tail (Has.tail (Has.tail (Has.tail (Has.tail Has.head)))) | exact Has.tail (Has.tail (Has.tail (Has.tail (Has.tail (Has.tail Has.head)))))) rfl rfl ?_
    refine RW.guardT rfl rfl h1 ?_
    -- mq: op 6: ('Op.call', ('Call.mk', ('Callee.value', ('Operand.func', '19')), ('arr', ('Operand.tmp', '9')), ('arr', '23'))) -> slot 10 ("attr.go:37")
    refine RW.call rfl ca19 rfl (fun w' _ => fine_c w' a.bk a.bn) ?_
    refine RW.pickB rfl rfl h1 rfl ?_
    refine RW.move rfl rfl ?_
    -- mq: guard slot 12
    refine RW.casesB 12 rfl (fun h2 => ?_) (fun h2 => ?_)
    · skip
      refine RW.guardT rfl rfl h2 ?_
      refine RW.fieldB fl25x2 rfl rfl ?_
      refine RW.guardT rfl rfl h2 ?_
      refine RW.loadB1 sc3 rfl rfl (by first | exact Has.head | exact Has.tail Has.head | exact Has.tail (Has.tail Has.head) | exact Has.tail (Has.tail (Has.tail Has.head)) | exact Has.tail (Has.tail (Has.tail (Has.tail Has.head))) | exact Has.tail (Has.tail (Has.tail (Has.tail (Has.tail Has.head)))) | exact Has.tail (Has.tail (Has.tail (Has.tail (Has.tail (Has.tail Has.head)))))) rfl ?_
      refine RW.guardT rfl rfl h2 ?_
      refine RW.andNot_ rfl rfl rfl rfl ?_
      refine RW.guardT rfl rfl h2 ?_
      refine RW.eqlI rfl rfl rfl ?_
      refine RW.pickB rfl rfl h2 rfl ?_
      refine RW.move rfl rfl ?_
      -- mq: guard slot 18
      refine RW.casesB 18 rfl (fun h3 => ?_) (fun h3 => ?_)
      · skip
        have h3p := of_decide_eq_true h3
        have h4 := (over_is h).1 h3p
        refine RW.guardT rfl rfl h3 ?_
        refine RW.fieldB fl25x2 rfl rfl ?_
        refine RW.guardT rfl rfl h3 ?_
        refine RW.loadB1 sc3 rfl rfl (by first | exact Has.head | exact Has.tail Has.head | exact Has.tail (Has.tail Has.head) | exact Has.tail (Has.tail (Has.tail Has.head)) | exact Has.tail (Has.tail (Has.tail (Has.tail Has.head))) | exact Has.tail (Has.tail (Has.tail (Has.tail (Has.tail Has.head)))) | exact Has.tail (Has.tail (Has.tail (Has.tail (Has.tail (Has.tail Has.head)))))) rfl ?_
        refine RW.guardT rfl rfl h3 ?_
        refine RW.move rfl rfl ?_
        refine RW.guardT rfl rfl h3 ?_
        refine RW.and_ rfl rfl rfl (and264 h4) ?_
        refine RW.guardT rfl rfl h3 ?_
        refine RW.move rfl rfl ?_
        refine RW.guardT rfl rfl h3 ?_
        refine RW.neqI rfl rfl rfl ?_
        refine RW.pickB rfl rfl h3 rfl ?_
        refine RW.assign rfl rfl ?_
        refine RW.nil (EX.seq (CW.ret ?_))
        refine EX.fin1 Tryd.results8 rfl (fun wz hw => ?_)
        -- mq: done
        refine ⟨?_, hw.ext⟩
        congr 2
        rw [both_is _ (by omega), rightF, h1, h2]
        simp [h4.1, h4.2]
      · skip
        have h3p := of_decide_eq_false h3
        refine RW.guardF rfl rfl rfl h3 ?_
        refine RW.guardF rfl rfl rfl h3 ?_
        refine RW.guardF rfl rfl rfl h3 ?_
        refine RW.guardF rfl rfl rfl h3 ?_
        refine RW.guardF rfl rfl rfl h3 ?_
        refine RW.guardF rfl rfl rfl h3 ?_
        refine RW.pickC rfl rfl h3 rfl ?_
        refine RW.assign rfl rfl ?_
        refine RW.nil (EX.seq (CW.ret ?_))
        refine EX.fin1 Tryd.results8 rfl (fun wz hw => ?_)
        -- mq: done
        refine ⟨?_, hw.ext⟩
        congr 2
        have h4 : ¬ (0 ≤ a.fl ∧ a.fl < 1024) := fun h5 => h3p ((over_is h).2 h5)
        rw [rightF, eq_comm, Bool.and_eq_false_iff, Bool.and_eq_false_iff, decide_eq_false_iff_not]
        exact .inr (.inr fun h5 => h4 ⟨h5.1, h5.2.1⟩)
    · skip
      refine RW.guardF rfl rfl rfl h2 ?_
      refine RW.guardF rfl rfl rfl h2 ?_
      refine RW.guardF rfl rfl rfl h2 ?_
      refine RW.guardF rfl rfl rfl h2 ?_
      refine RW.pickC rfl rfl h2 rfl ?_
      refine RW.move rfl rfl ?_
      refine RW.guardF rfl rfl rfl rfl ?_
      refine RW.guardF rfl rfl rfl rfl ?_
      refine RW.guardF rfl rfl rfl rfl ?_
      refine RW.guardF rfl rfl rfl rfl ?_
      refine RW.guardF rfl rfl rfl rfl ?_
      refine RW.guardF rfl rfl rfl rfl ?_
      refine RW.pickC rfl rfl rfl rfl ?_
      refine RW.assign rfl rfl ?_
      refine RW.nil (EX.seq (CW.ret ?_))
      refine EX.fin1 Tryd.results8 rfl (fun wz hw => ?_)
      -- mq: done
      exact ⟨by rw [rightF, h2]; simp, hw.ext⟩
  · skip
    refine RW.guardF rfl rfl rfl h1 ?_
    refine RW.guardF rfl rfl rfl h1 ?_
    refine RW.guardF rfl rfl rfl h1 ?_
    refine RW.pickC rfl rfl h1 rfl ?_
    refine RW.move rfl rfl ?_
    refine RW.guardF rfl rfl rfl rfl ?_
    refine RW.guardF rfl rfl rfl rfl ?_
    refine RW.guardF rfl rfl rfl rfl ?_
    refine RW.guardF rfl rfl rfl rfl ?_
    refine RW.pickC rfl rfl rfl rfl ?_
    refine RW.move rfl rfl ?_
    refine RW.guardF rfl rfl rfl rfl ?_
    refine RW.guardF rfl rfl rfl rfl ?_
    refine RW.guardF rfl rfl rfl rfl ?_
    refine RW.guardF rfl rfl rfl rfl ?_
    refine RW.guardF rfl rfl rfl rfl ?_
    refine RW.guardF rfl rfl rfl rfl ?_
    refine RW.pickC rfl rfl rfl rfl ?_
    refine RW.assign rfl rfl ?_
    refine RW.nil (EX.seq (CW.ret ?_))
    refine EX.fin1 Tryd.results8 rfl (fun wz hw => ?_)
    -- mq: done
    exact ⟨by rw [rightF, h1]; simp, hw.ext⟩
theorem refRight_c (w : World) (a : AtV) : Calls Tryd.prog 9 [atV a].toArray w (fun e w' => e = .returned (.bool (rightF a)) ∧ Ext [] w w') := by
  refine calls (n := 32) Tryd.func9 rfl Tryd.ntmps9 rfl ?_
  refine CW.sub (H' := SH w [] []) ?_ (Sub.refl _) (fun x hx => SH.start' _ _ hx)
  refine CW.seq (CW.region ?_)
  refine RW.boxA rfl rfl (fun g1 hg1 hf1 => ?_)
  refine RW.assign rfl rfl ?_
  refine RW.nil (EX.seq (CW.seq (CW.region ?_)))
  refine RW.fieldB fl25x0 rfl rfl ?_
  refine RW.loadBA ag23 rfl rfl (by first | exact Has.head | exact Has.tail Has.head | exact Has.tail (Has.tail Has.head) | exact Has.tail (Has.tail (Has.tail Has.head)) | exact Has.tail (Has.tail (Has.tail (Has.tail Has.head))) | exact Has.tail (Has.tail (Has.tail (Has.tail (Has.tail Has.head)))) | exact Has.tail (Has.tail (Has.tail (Has.tail (Has.tail (Has.tail Has.head)))))) rfl rfl ?_
  -- mq: op 2: ('Op.call', ('Call.mk', ('Callee.value', ('Operand.func', '20')), ('arr', ('Operand.tmp', '4')), ('arr', '23'))) -> slot 5 ("ref.go:41")
  refine RW.call rfl ca20 rfl (fun w' _ => color_c w' a.fk a.fn) ?_
  refine RW.move rfl rfl ?_
  -- mq: guard slot 6
  refine RW.casesB 6 rfl (fun h1 => ?_) (fun h1 => ?_)
  · skip
    refine RW.guardT rfl rfl h1 ?_
    refine RW.fieldB fl25x1 rfl rfl ?_
    refine RW.guardT rfl rfl h1 ?_
    refine RW.loadBA ag23 rfl rfl (by first | exact Has.head | exact Has.tail Has.head | exact Has.tail (Has.tail Has.head) | exact Has.tail (Has.tail (Has.tail Has.head)) | exact Has.tail (Has.tail (Has.tail (Has.tail Has.head))) | exact Has.tail (Has.tail (Has.tail (Has.tail (Has.tail Has.head)))) | exact Has.tail (Has.tail (Has.tail (Has.tail (Has.tail (Has.tail Has.head)))))) rfl rfl ?_
    refine RW.guardT rfl rfl h1 ?_
    -- mq: op 6: ('Op.call', ('Call.mk', ('Callee.value', ('Operand.func', '20')), ('arr', ('Operand.tmp', '8')), ('arr', '23'))) -> slot 9 ("ref.go:41")
    refine RW.call rfl ca20 rfl (fun w' _ => color_c w' a.bk a.bn) ?_
    refine RW.pickB rfl rfl h1 rfl ?_
    refine RW.move rfl rfl ?_
    -- mq: guard slot 11
    refine RW.casesB 11 rfl (fun h2 => ?_) (fun h2 => ?_)
    · skip
      refine RW.guardT rfl rfl h2 ?_
      refine RW.fieldB fl25x2 rfl rfl ?_
      refine RW.guardT rfl rfl h2 ?_
      refine RW.loadB1 sc3 rfl rfl (by first | exact Has.head | exact Has.tail Has.head | exact Has.tail (Has.tail Has.head) | exact Has.tail (Has.tail (Has.tail Has.head)) | exact Has.tail (Has.tail (Has.tail (Has.tail Has.head))) | exact Has.tail (Has.tail (Has.tail (Has.tail (Has.tail Has.head)))) | exact Has.tail (Has.tail (Has.tail (Has.tail (Has.tail (Has.tail Has.head)))))) rfl ?_
      refine RW.guardT rfl rfl h2 ?_
      refine RW.geq rfl rfl rfl ?_
      refine RW.pickB rfl rfl h2 rfl ?_
      refine RW.move rfl rfl ?_
      -- mq: guard slot 16
      refine RW.casesB 16 rfl (fun h3 => ?_) (fun h3 => ?_)
      · skip
        have h3p := of_decide_eq_true h3
        refine RW.guardT rfl rfl h3 ?_
        refine RW.fieldB fl25x2 rfl rfl ?_
        refine RW.guardT rfl rfl h3 ?_
        refine RW.loadB1 sc3 rfl rfl (by first | exact Has.head | exact Has.tail Has.head | exact Has.tail (Has.tail Has.head) | exact Has.tail (Has.tail (Has.tail Has.head)) | exact Has.tail (Has.tail (Has.tail (Has.tail Has.head))) | exact Has.tail (Has.tail (Has.tail (Has.tail (Has.tail Has.head)))) | exact Has.tail (Has.tail (Has.tail (Has.tail (Has.tail (Has.tail Has.head)))))) rfl ?_
        refine RW.guardT rfl rfl h3 ?_
        refine RW.lss rfl rfl rfl ?_
        refine RW.pickB rfl rfl h3 rfl ?_
        refine RW.move rfl rfl ?_
        -- mq: guard slot 21
        refine RW.casesB 21 rfl (fun h4 => ?_) (fun h4 => ?_)
        · skip
          have h4p := of_decide_eq_true h4
          refine RW.guardT rfl rfl h4 ?_
          refine RW.fieldB fl25x2 rfl rfl ?_
          refine RW.guardT rfl rfl h4 ?_
          refine RW.loadB1 sc3 rfl rfl (by first | exact Has.head | exact Has.tail Has.head | exact Has.tail (Has.tail Has.head) | exact Has.tail (Has.tail (Has.tail Has.head)) | exact Has.tail (Has.tail (Has.tail (Has.tail Has.head))) | exact Has.tail (Has.tail (Has.tail (Has.tail (Has.tail Has.head)))) | exact Has.tail (Has.tail (Has.tail (Has.tail (Has.tail (Has.tail Has.head)))))) rfl ?_
          refine RW.guardT rfl rfl h4 ?_
          -- mq: op 21: ('Op.call', ('Call.mk', ('Callee.value', ('Operand.func', '21')), ('arr', ('Operand.tmp', '23'), ('Operand.const', ('Value.int', 'IntKind.i64', '8'))), ('arr', '3', '3'))) -> slot 24 ("ref.go:41")
          obtain ⟨m, hm⟩ : ∃ m : Nat, a.fl = m := ⟨a.fl.toNat, by omega⟩
          refine RW.call rfl ca21 rfl (fun w' _ => by rw [hm]; exact has_c w' m 8 (by omega) (by decide)) ?_
          refine RW.guardT rfl rfl h4 ?_
          refine RW.move rfl rfl ?_
          -- mq: guard slot 25
          refine RW.casesB 25 rfl (fun h5 => ?_) (fun h5 => ?_)
          · skip
            refine RW.guardT rfl rfl h5 ?_
            refine RW.fieldB fl25x2 rfl rfl ?_
            refine RW.guardT rfl rfl h5 ?_
            refine RW.loadB1 sc3 rfl rfl (by first | exact Has.head | exact Has.tail Has.head | exact Has.tail (Has.tail Has.head) | exact Has.tail (Has.tail (Has.tail Has.head)) | exact Has.tail (Has.tail (Has.tail (Has.tail Has.head))) | exact Has.tail (Has.tail (Has.tail (Has.tail (Has.tail Has.head)))) | exact Has.tail (Has.tail (Has.tail (Has.tail (Has.tail (Has.tail Has.head)))))) rfl ?_
            refine RW.guardT rfl rfl h5 ?_
            -- mq: op 25: ('Op.call', ('Call.mk', ('Callee.value', ('Operand.func', '21')), ('arr', ('Operand.tmp', '27'), ('Operand.const', ('Value.int', 'IntKind.i64', '256'))), ('arr', '3', '3'))) -> slot 28 ("ref.go:41")
            refine RW.call rfl ca21 rfl (fun w' _ => by rw [hm]; exact has_c w' m 256 (by omega) (by decide)) ?_
            refine RW.guardT rfl rfl h4 ?_
            refine RW.pickB rfl rfl h5 rfl ?_
            refine RW.guardT rfl rfl h4 ?_
            refine RW.not_ rfl rfl ?_
            refine RW.pickB rfl rfl h4 rfl ?_
            refine RW.assign rfl rfl ?_
            refine RW.nil (EX.seq (CW.ret ?_))
            refine EX.fin1 Tryd.results9 rfl (fun wz hw => ?_)
            -- mq: done
            refine ⟨?_, hw.ext⟩
            have e : a.fl.toNat = m := by omega
            congr 2
            rw [rightF, h1, h2, e, h5]
            simp [h3p, h4p]
          · skip
            refine RW.guardF rfl rfl rfl h5 ?_
            refine RW.guardF rfl rfl rfl h5 ?_
            refine RW.guardF rfl rfl rfl h5 ?_
            refine RW.guardT rfl rfl h4 ?_
            refine RW.pickC rfl rfl h5 rfl ?_
            refine RW.guardT rfl rfl h4 ?_
            refine RW.not_ rfl rfl ?_
            refine RW.pickB rfl rfl h4 rfl ?_
            refine RW.assign rfl rfl ?_
            refine RW.nil (EX.seq (CW.ret ?_))
            refine EX.fin1 Tryd.results9 rfl (fun wz hw => ?_)
            -- mq: done
            refine ⟨?_, hw.ext⟩
            have e : a.fl.toNat = m := by omega
            congr 2
            rw [rightF, h1, h2, e, h5]
            simp [h3p, h4p]
        · skip
          have h4p := of_decide_eq_false h4
          refine RW.guardF rfl rfl rfl h4 ?_
          refine RW.guardF rfl rfl rfl h4 ?_
          refine RW.guardF rfl rfl rfl h4 ?_
          refine RW.guardF rfl rfl rfl h4 ?_
          refine RW.guardU rfl rfl rfl ?_
          refine RW.guardU rfl rfl rfl ?_
          refine RW.guardU rfl rfl rfl ?_
          refine RW.guardF rfl rfl rfl h4 ?_
          refine RW.guardF rfl rfl rfl h4 ?_
          refine RW.pickC rfl rfl h4 rfl ?_
          refine RW.assign rfl rfl ?_
          refine RW.nil (EX.seq (CW.ret ?_))
          refine EX.fin1 Tryd.results9 rfl (fun wz hw => ?_)
          -- mq: done
          refine ⟨?_, hw.ext⟩
          congr 2
          rw [rightF, eq_comm, Bool.and_eq_false_iff, Bool.and_eq_false_iff, decide_eq_false_iff_not]
          exact .inr (.inr fun h5 => h4p h5.2.1)
      · skip
        have h3p := of_decide_eq_false h3
        refine RW.guardF rfl rfl rfl h3 ?_
        refine RW.guardF rfl rfl rfl h3 ?_
        refine RW.guardF rfl rfl rfl h3 ?_
        refine RW.pickC rfl rfl h3 rfl ?_
        refine RW.move rfl rfl ?_
        refine RW.guardF rfl rfl rfl rfl ?_
        refine RW.guardF rfl rfl rfl rfl ?_
        refine RW.guardF rfl rfl rfl rfl ?_
        refine RW.guardF rfl rfl rfl rfl ?_
        refine RW.guardU rfl rfl rfl ?_
        refine RW.guardU rfl rfl rfl ?_
        refine RW.guardU rfl rfl rfl ?_
        refine RW.guardF rfl rfl rfl rfl ?_
        refine RW.guardF rfl rfl rfl rfl ?_
        refine RW.pickC rfl rfl rfl rfl ?_
        refine RW.assign rfl rfl ?_
        refine RW.nil (EX.seq (CW.ret ?_))
        refine EX.fin1 Tryd.results9 rfl (fun wz hw => ?_)
        -- mq: done
        refine ⟨?_, hw.ext⟩
        congr 2
        rw [rightF, eq_comm, Bool.and_eq_false_iff, Bool.and_eq_false_iff, decide_eq_false_iff_not]
        exact .inr (.inr fun h5 => h3p h5.1)
    · skip
      refine RW.guardF rfl rfl rfl h2 ?_
      refine RW.guardF rfl rfl rfl h2 ?_
      refine RW.guardF rfl rfl rfl h2 ?_
      refine RW.pickC rfl rfl h2 rfl ?_
      refine RW.move rfl rfl ?_
      refine RW.guardF rfl rfl rfl rfl ?_
      refine RW.guardF rfl rfl rfl rfl ?_
      refine RW.guardF rfl rfl rfl rfl ?_
      refine RW.pickC rfl rfl rfl rfl ?_
      refine RW.move rfl rfl ?_
      refine RW.guardF rfl rfl rfl rfl ?_
      refine RW.guardF rfl rfl rfl rfl ?_
      refine RW.guardF rfl rfl rfl rfl ?_
      refine RW.guardF rfl rfl rfl rfl ?_
      refine RW.guardU rfl rfl rfl ?_
      refine RW.guardU rfl rfl rfl ?_
      refine RW.guardU rfl rfl rfl ?_
      refine RW.guardF rfl rfl rfl rfl ?_
      refine RW.guardF rfl rfl rfl rfl ?_
      refine RW.pickC rfl rfl rfl rfl ?_
      refine RW.assign rfl rfl ?_
      refine RW.nil (EX.seq (CW.ret ?_))
      refine EX.fin1 Tryd.results9 rfl (fun wz hw => ?_)
      -- mq: done
      exact ⟨by rw [rightF, h2]; simp, hw.ext⟩
  · skip
    refine RW.guardF rfl rfl rfl h1 ?_
    refine RW.guardF rfl rfl rfl h1 ?_
    refine RW.guardF rfl rfl rfl h1 ?_
    refine RW.pickC rfl rfl h1 rfl ?_
    refine RW.move rfl rfl ?_
    refine RW.guardF rfl rfl rfl rfl ?_
    refine RW.guardF rfl rfl rfl rfl ?_
    refine RW.guardF rfl rfl rfl rfl ?_
    refine RW.pickC rfl rfl rfl rfl ?_
    refine RW.move rfl rfl ?_
    refine RW.guardF rfl rfl rfl rfl ?_
    refine RW.guardF rfl rfl rfl rfl ?_
    refine RW.guardF rfl rfl rfl rfl ?_
    refine RW.pickC rfl rfl rfl rfl ?_
    refine RW.move rfl rfl ?_
    refine RW.guardF rfl rfl rfl rfl ?_
    refine RW.guardF rfl rfl rfl rfl ?_
    refine RW.guardF rfl rfl rfl rfl ?_
    refine RW.guardF rfl rfl rfl rfl ?_
    refine RW.guardU rfl rfl rfl ?_
    refine RW.guardU rfl rfl rfl ?_
    refine RW.guardU rfl rfl rfl ?_
    refine RW.guardF rfl rfl rfl rfl ?_
    refine RW.guardF rfl rfl rfl rfl ?_
    refine RW.pickC rfl rfl rfl rfl ?_
    refine RW.assign rfl rfl ?_
    refine RW.nil (EX.seq (CW.ret ?_))
    refine EX.fin1 Tryd.results9 rfl (fun wz hw => ?_)
    -- mq: done
    exact ⟨by rw [rightF, h1]; simp, hw.ext⟩
end Go.Proofs.YtojfodeienchfaaDoor.Mq
