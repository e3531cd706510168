/- walks: File, Make -/
import Derived.Test.YtkabehgjgicckaaPk3
namespace Go.Proofs.Ytkabehgjgicckaa.Mq
open Go Go.RowKit Go.Proofs

def fileV (s : List UInt8) : Value := match fileL s with
  | some p => .tuple #[.string (bs p.1), .string (bs p.2), .int .i64 0]
  | none => .tuple #[.string (bs []), .string (bs []), .int .i64 4]
theorem File_c (w : World) (s : List UInt8) (hs : s.length ≤ 1000000) :
    Calls Try.prog 9 [.string (bs s)].toArray w (fun e w' => e = .returned (fileV s) ∧ Ext [] w w') := by
  refine calls (n := 29) Try.func9 rfl Try.ntmps9 rfl ?_
  refine CW.sub (H' := SH w [] []) ?_ (Sub.refl _) (fun x hx => SH.start' _ _ hx)
  refine CW.seq (CW.region ?_)
  refine RW.assign rfl rfl ?_
  refine RW.assign rfl rfl ?_
  refine RW.assign rfl rfl ?_
  refine RW.nil (EX.seq (CW.seq (CW.seq (CW.region ?_))))
  refine RW.move rfl rfl ?_
  refine RW.lenS Try.underlying9 rfl rfl ?_
  refine RW.lss rfl rfl rfl ?_
  refine RW.move rfl rfl ?_
  -- mq: guard slot 10
  refine RW.casesB 10 rfl (fun h10 => ?_) (fun h10 => ?_)
  · skip
    have h10p := of_decide_eq_true h10
    refine RW.guardF rfl rfl rfl h10 ?_
    refine RW.guardF rfl rfl rfl h10 ?_
    refine RW.guardF rfl rfl rfl h10 ?_
    refine RW.guardF rfl rfl rfl h10 ?_
    refine RW.pickB rfl rfl h10 rfl ?_
    refine RW.nil (EX.seq ?_)
    -- mq: cond
    refine CW.condT rfl (rfl) ?_
    refine CW.seq (CW.region ?_)
    refine RW.assign rfl rfl ?_
    refine RW.assign rfl rfl ?_
    refine RW.assign rfl rfl ?_
    refine RW.nil (EX.seq (CW.ret (EX.seqR ?_)))
    refine EX.fin3 Try.results9 rfl rfl rfl (fun wz hw => ?_)
    -- mq: done
    exact ⟨by rw [fileV, fileL, if_neg (by omega)], hw.ext⟩
  · skip
    have h10p := of_decide_eq_false h10
    have h7 : (s.take 7).length = 7 := by rw [List.length_take]; omega
    refine RW.guardT rfl rfl h10 ?_
    refine RW.move rfl rfl ?_
    refine RW.guardT rfl rfl h10 ?_
    refine RW.sliceStrH 7 Try.underlying9 rfl rfl rfl (by first | rfl | omega) (by first | omega | (simp; omega)) ?_
    refine RW.guardT rfl rfl h10 ?_
    -- mq: op 6: ('Op.call', ('Call.mk', ('Callee.value', ('Operand.func', '17')), ('arr', ('Operand.tmp', '12')), ('arr', '9'))) -> slot 13 ("pct.go:112")
    refine RW.call rfl ca17 rfl (fun w' _ => lower_c w' (s.take 7) (by omega)) ?_
    refine RW.guardT rfl rfl h10 ?_
    refine RW.neqS rfl rfl rfl ?_
    refine RW.pickC rfl rfl h10 rfl ?_
    refine RW.nil (EX.seq ?_)
    -- mq: cond
    first | refine CW.condD rfl (fun h15 => ?_) (fun h15 => ?_) | refine CW.cond rfl (fun h15 => ?_) (fun h15 => ?_)
    · skip
      refine CW.seq (CW.region ?_)
      refine RW.assign rfl rfl ?_
      refine RW.assign rfl rfl ?_
      refine RW.assign rfl rfl ?_
      refine RW.nil (EX.seq (CW.ret (EX.seqR ?_)))
      refine EX.fin3 Try.results9 rfl rfl rfl (fun wz hw => ?_)
      -- mq: done
      exact ⟨by rw [fileV, fileL, if_neg (by rintro ⟨_, h⟩; exact h15 (by simpa [schemeL] using h))], hw.ext⟩
    · skip
      have hlow : lowL (s.take 7) = schemeL := by simpa [schemeL] using h15
      refine CW.skip (EX.seq (CW.seq (CW.region ?_)))
      refine RW.move rfl rfl ?_
      refine RW.sliceStrL 7 Try.underlying9 rfl rfl rfl (by first | rfl | omega) (by first | omega | (simp; omega)) ?_
      refine RW.assign rfl rfl ?_
      refine RW.nil (EX.seq (CW.seq (CW.region ?_)))
      refine RW.move rfl rfl ?_
      -- mq: op 1: ('Op.call', ('Call.mk', ('Callee.value', ('Operand.func', '18')), ('arr', ('Operand.tmp', '18'), ('Operand.const', ('Value.int', 'IntKind.u8', '47'))), ('arr', '9', '5'))) -> slot 19 ("pct.go:116")
      refine RW.callP rfl ca18 rfl (fun w' _ => IndexByte_c w' (s.drop 7) 47) ?_
      refine RW.assign rfl rfl ?_
      refine RW.nil (EX.seq (CW.seq (CW.seq (CW.region ?_))))
      refine RW.move rfl rfl ?_
      refine RW.lss rfl rfl rfl ?_
      refine RW.nil (EX.seq ?_)
      -- mq: cond
      first | refine CW.condD rfl (fun h21 => ?_) (fun h21 => ?_) | refine CW.cond rfl (fun h21 => ?_) (fun h21 => ?_)
      · skip
        refine CW.seq (CW.region ?_)
        refine RW.assign rfl rfl ?_
        refine RW.assign rfl rfl ?_
        refine RW.assign rfl rfl ?_
        refine RW.nil (EX.seq (CW.ret (EX.seqR ?_)))
        refine EX.fin3 Try.results9 rfl rfl rfl (fun wz hw => ?_)
        -- mq: done
        exact ⟨by rw [fileV, fileL, if_pos ⟨by omega, hlow⟩, if_pos h21], hw.ext⟩
      · skip
        rcases ib_cases (s.drop 7) 47 with ⟨_, h⟩ | ⟨pre, post, hpp, hpre, hib⟩
        · omega
        have hk : pre.length ≤ (s.drop 7).length := by rw [hpp]; simp
        have hdl : (s.drop 7).length ≤ 1000000 := by rw [List.length_drop]; omega
        rw [hib]
        refine CW.skip (EX.seq (CW.seq ?_))
        refine CW.drawq mixed (by kernel_rfl) (fun _ hw => hw.drew) ?_
        refine DRq.cons rfl (RW.move rfl rfl RW.jn) ?_
        refine DRq.cons rfl (RW.move rfl rfl RW.jn) ?_
        refine DRq.cons rfl (RW.sliceStrH pre.length Try.underlying9 rfl rfl rfl (by first | rfl | omega) (by first | omega | (simp; omega)) RW.jn) ?_
        refine DRq.cons rfl (RW.move rfl rfl RW.jn) ?_
        refine DRq.cons rfl (RW.move rfl rfl RW.jn) ?_
        refine DRq.cons rfl (RW.sliceStrL pre.length Try.underlying9 rfl rfl rfl (by first | rfl | omega) (by first | omega | (simp; omega)) RW.jn) ?_
        refine DRq.cons rfl (RW.call rfl ca12 rfl (fun w' _ => Take_c w' ((s.drop 7).drop pre.length) (by rw [List.length_drop]; omega)) RW.jn) ?_
        refine DRq.cons rfl (RW.assign rfl rfl RW.jn) ?_
        refine DRq.cons rfl (RW.assign rfl rfl RW.jn) ?_
        refine DRq.cons rfl (RW.assign rfl rfl RW.jn) ?_
        refine DRq.nil (EX.seq (CW.ret ?_))
        refine EX.fin3 Try.results9 rfl rfl rfl (fun wz hw => ?_)
        -- mq: done
        refine ⟨?_, hw.ext⟩
        rw [fileV, fileL, if_pos ⟨by omega, hlow⟩, if_neg h21, hib]
        rfl
def hasP (s t : List UInt8) : Bool := decide (t.length ≤ s.length) && decide (s.take t.length = t)
theorem caHP : CaT Try.prog 32 := CaT.of Try.func32 (by kernel_rfl) (by kernel_rfl)
theorem slHasPrefix_c (w : World) (s t : List UInt8) :
    Calls Try.prog 32 [.string (bs s), .string (bs t)].toArray w (fun e w' => e = .returned (.bool (hasP s t)) ∧ w' = w) := by
  refine calls (n := 18) Try.func32 rfl Try.ntmps32 rfl ?_
  refine CW.seq (CW.region ?_)
  refine RW.assign rfl rfl ?_
  refine RW.nil (EX.seq (CW.seq (CW.region ?_)))
  refine RW.move rfl rfl ?_
  refine RW.lenS Try.underlying9 rfl rfl ?_
  refine RW.move rfl rfl ?_
  refine RW.lenS Try.underlying9 rfl rfl ?_
  refine RW.geq rfl rfl rfl ?_
  refine RW.move rfl rfl ?_
  -- mq: guard slot 10
  refine RW.casesB 10 rfl (fun h10 => ?_) (fun h10 => ?_)
  · skip
    have h10p := of_decide_eq_true h10
    refine RW.guardT rfl rfl h10 ?_
    refine RW.move rfl rfl ?_
    refine RW.guardT rfl rfl h10 ?_
    refine RW.move rfl rfl ?_
    refine RW.guardT rfl rfl h10 ?_
    refine RW.lenS Try.underlying9 rfl rfl ?_
    refine RW.guardT rfl rfl h10 ?_
    refine RW.sliceStrH t.length Try.underlying9 rfl rfl rfl (by first | rfl | omega) (by first | omega | (simp; omega)) ?_
    refine RW.guardT rfl rfl h10 ?_
    refine RW.move rfl rfl ?_
    refine RW.guardT rfl rfl h10 ?_
    refine RW.eqlS rfl rfl rfl ?_
    refine RW.pickB rfl rfl h10 rfl ?_
    refine RW.assign rfl rfl ?_
    refine RW.nil (EX.seq (CW.ret ?_))
    refine EX.fin1 Try.results32 rfl (fun wz hw => ?_)
    -- mq: done
    exact ⟨by rw [hasP, decide_eq_true (by omega : t.length ≤ s.length), Bool.true_and], hw⟩
  · skip
    have h10p := of_decide_eq_false h10
    refine RW.guardF rfl rfl rfl h10 ?_
    refine RW.guardF rfl rfl rfl h10 ?_
    refine RW.guardF rfl rfl rfl h10 ?_
    refine RW.guardF rfl rfl rfl h10 ?_
    refine RW.guardF rfl rfl rfl h10 ?_
    refine RW.guardF rfl rfl rfl h10 ?_
    refine RW.pickC rfl rfl h10 rfl ?_
    refine RW.assign rfl rfl ?_
    refine RW.nil (EX.seq (CW.ret ?_))
    refine EX.fin1 Try.results32 rfl (fun wz hw => ?_)
    -- mq: done
    exact ⟨by rw [hasP, decide_eq_false (by omega : ¬ t.length ≤ s.length), Bool.false_and], hw⟩
theorem HasPrefix_c (w : World) (s t : List UInt8) :
    Calls Try.prog 25 [.string (bs s), .string (bs t)].toArray w (fun e w' => e = .returned (.bool (hasP s t)) ∧ w' = w) := by
  refine calls (n := 8) Try.func25 rfl Try.ntmps25 rfl ?_
  refine CW.seq (CW.region ?_)
  refine RW.assign rfl rfl ?_
  refine RW.nil (EX.seq (CW.seq (CW.region ?_)))
  refine RW.move rfl rfl ?_
  refine RW.move rfl rfl ?_
  -- mq: op 2: ('Op.call', ('Call.mk', ('Callee.value', ('Operand.func', '32')), ('arr', ('Operand.tmp', '5'), ('Operand.tmp', '6')), ('arr', '9', '9'))) -> slot 7 ("strings.go:502")
  refine RW.callP rfl caHP rfl (fun w' _ => slHasPrefix_c w' s t) ?_
  refine RW.assign rfl rfl ?_
  refine RW.nil (EX.seq (CW.ret ?_))
  refine EX.fin1 Try.results25 rfl (fun wz hw => ?_)
  -- mq: done
  exact ⟨rfl, hw⟩
theorem hasP_one (p : List UInt8) : hasP p [47] = true ↔ p.head? = some 47 := by
  unfold hasP
  cases p with
  | nil => simp
  | cons c p => simp
def rightB (h p : List UInt8) : Bool := decide (p.head? = some 47) && decide (47 ∉ h)
def makeV (h p : List UInt8) : Value := if rightB h p = true then .tuple #[.string (bs (schemeL ++ h ++ layL p)), .int .i64 0] else .tuple #[.string (bs []), .int .i64 4]
theorem Make_c (w : World) (h p : List UInt8) (hs : h.length + p.length ≤ 1000000) :
    Calls Try.prog 16 [.string (bs h), .string (bs p)].toArray w (fun e w' => e = .returned (makeV h p) ∧ Ext [] w w') := by
  have hll := layL_length p
  refine calls (n := 19) Try.func16 rfl Try.ntmps16 rfl ?_
  refine CW.sub (H' := SH w [] []) ?_ (Sub.refl _) (fun x hx => SH.start' _ _ hx)
  refine CW.seq (CW.region ?_)
  refine RW.assign rfl rfl ?_
  refine RW.assign rfl rfl ?_
  refine RW.nil (EX.seq (CW.seq (CW.seq (CW.region ?_))))
  refine RW.move rfl rfl ?_
  -- mq: op 1: ('Op.call', ('Call.mk', ('Callee.value', ('Operand.func', '25')), ('arr', ('Operand.tmp', '6'), ('Operand.const', ('Value.string', ('ByteArray.mk', ('arr', '47'))))), ('arr', '9', '9'))) -> slot 7 ("pct.go:125")
  refine RW.callP rfl ca25 rfl (fun w' _ => HasPrefix_c w' p [47]) ?_
  refine RW.not_ rfl rfl ?_
  refine RW.move rfl rfl ?_
  -- mq: guard slot 9
  refine RW.casesB 9 rfl (fun h9 => ?_) (fun h9 => ?_)
  · skip
    refine RW.guardF rfl rfl rfl h9 ?_
    refine RW.guardF rfl rfl rfl h9 ?_
    refine RW.guardF rfl rfl rfl h9 ?_
    refine RW.pickB rfl rfl h9 rfl ?_
    refine RW.nil (EX.seq ?_)
    -- mq: cond
    refine CW.condT rfl (rfl) ?_
    refine CW.seq (CW.region ?_)
    refine RW.assign rfl rfl ?_
    refine RW.assign rfl rfl ?_
    refine RW.nil (EX.seq (CW.ret (EX.seqR ?_)))
    refine EX.fin2 Try.results16 rfl rfl (fun wz hw => ?_)
    -- mq: done
    have h1 : hasP p [47] = false := by simpa using h9
    have h2 : ¬ p.head? = some 47 := fun e => by rw [(hasP_one p).2 e] at h1; cases h1
    exact ⟨by rw [makeV, rightB, decide_eq_false h2, Bool.false_and, if_neg (by simp)], hw.ext⟩
  · skip
    have h1 : hasP p [47] = true := by simpa using h9
    have h2 := (hasP_one p).1 h1
    refine RW.guardT rfl rfl h9 ?_
    refine RW.move rfl rfl ?_
    refine RW.guardT rfl rfl h9 ?_
    -- mq: op 5: ('Op.call', ('Call.mk', ('Callee.value', ('Operand.func', '18')), ('arr', ('Operand.tmp', '10'), ('Operand.const', ('Value.int', 'IntKind.u8', '47'))), ('arr', '9', '5'))) -> slot 11 ("pct.go:125")
    refine RW.callP rfl ca18 rfl (fun w' _ => IndexByte_c w' h 47) ?_
    refine RW.guardT rfl rfl h9 ?_
    refine RW.geq rfl rfl rfl ?_
    refine RW.pickC rfl rfl h9 rfl ?_
    refine RW.nil (EX.seq ?_)
    -- mq: cond
    first | refine CW.condD rfl (fun h13 => ?_) (fun h13 => ?_) | refine CW.cond rfl (fun h13 => ?_) (fun h13 => ?_)
    · skip
      refine CW.seq (CW.region ?_)
      refine RW.assign rfl rfl ?_
      refine RW.assign rfl rfl ?_
      refine RW.nil (EX.seq (CW.ret (EX.seqR ?_)))
      refine EX.fin2 Try.results16 rfl rfl (fun wz hw => ?_)
      -- mq: done
      have h3 : 47 ∈ h := by
        rcases ib_cases h 47 with ⟨_, e⟩ | ⟨pre, post, hpp, _, _⟩
        · omega
        · rw [hpp]; simp
      exact ⟨by rw [makeV, rightB, decide_eq_false (not_not_intro h3), Bool.and_false, if_neg (by simp)], hw.ext⟩
    · skip
      have h3 : 47 ∉ h := by
        rcases ib_cases h 47 with ⟨e, _⟩ | ⟨pre, post, _, _, e⟩
        · exact e
        · omega
      refine CW.skip (EX.seq (CW.seq (CW.region ?_)))
      refine RW.move rfl rfl ?_
      refine RW.catS (s := schemeL) rfl rfl rfl (by show ((7 + _ : Nat) : Int) ≤ _; omega) ?_
      refine RW.move rfl rfl ?_
      -- mq: op 3: ('Op.call', ('Call.mk', ('Callee.value', ('Operand.func', '11')), ('arr', ('Operand.tmp', '16')), ('arr', '9'))) -> slot 17 ("pct.go:128")
      refine RW.call rfl ca11 rfl (fun w' _ => Lay_c w' p (by omega)) ?_
      refine RW.catS (s := schemeL ++ h) rfl rfl rfl (by rw [List.length_append]; show ((7 + _ + _ : Nat) : Int) ≤ _; omega) ?_
      refine RW.assign rfl rfl ?_
      refine RW.assign rfl rfl ?_
      refine RW.nil (EX.seq (CW.ret ?_))
      refine EX.fin2 Try.results16 rfl rfl (fun wz hw => ?_)
      -- mq: done
      exact ⟨by rw [makeV, rightB, decide_eq_true h2, decide_eq_true h3]; rfl, hw.ext⟩
end Go.Proofs.Ytkabehgjgicckaa.Mq
