/- walks: PctLays, PctTakes, PctMakes -/
import Derived.Test.YtkabehgjgicckaaLawW
namespace Go.Proofs.Ytkabehgjgicckaa.Mq
open Go Go.RowKit Go.Proofs

theorem take_lay0 (s : List UInt8) : takeL (layL s) = (s, true) := by
  have := take_lay s []
  simpa [takeL] using this
theorem lays_c (w : World) (s : List UInt8) :
    Calls Try.prog 5 [.string (bs s)].toArray w (fun e w' => e = .returned (.bool true) ∧ Ext [] w w') := by
  have hls := layL_length s
  refine calls (n := 38) Try.func5 rfl Try.ntmps5 rfl ?_
  refine CW.sub (H' := SH w [] []) ?_ (Sub.refl _) (fun x hx => SH.start' _ _ hx)
  refine CW.seq (CW.region ?_)
  refine RW.assign rfl rfl ?_
  refine RW.nil (EX.seq (CW.seq (CW.seq (CW.region ?_))))
  refine RW.move rfl rfl ?_
  refine RW.lenS Try.underlying9 rfl rfl ?_
  refine RW.gtr rfl rfl rfl ?_
  refine RW.nil (EX.seq ?_)
  -- mq: cond
  first | refine CW.condD rfl (fun h1 => ?_) (fun h1 => ?_) | refine CW.cond rfl (fun h1 => ?_) (fun h1 => ?_)
  · skip
    refine CW.seq (CW.region ?_)
    refine RW.call rfl ca8 rfl (fun w' _ => awake_c w') ?_
    refine RW.assign rfl rfl ?_
    refine RW.nil (EX.seq (CW.ret (EX.seqR ?_)))
    refine EX.fin1 Try.results5 rfl (fun wz hw => ?_)
    -- mq: done
    exact ⟨rfl, hw.ext⟩
  · skip
    refine CW.skip (EX.seq (CW.seq (CW.region ?_)))
    refine RW.move rfl rfl ?_
    -- mq: op 1: ('Op.call', ('Call.mk', ('Callee.value', ('Operand.func', '11')), ('arr', ('Operand.tmp', '10')), ('arr', '9'))) -> slot 11 ("law.go:21")
    refine RW.call rfl ca11 rfl (fun w' _ => Lay_c w' s (by omega)) ?_
    refine RW.assign rfl rfl ?_
    refine RW.nil (EX.seq (CW.seq (CW.region ?_)))
    refine RW.move rfl rfl ?_
    -- mq: op 1: ('Op.call', ('Call.mk', ('Callee.value', ('Operand.func', '13')), ('arr', ('Operand.tmp', '13')), ('arr', '9'))) -> slot 14 ("law.go:22")
    refine RW.call rfl ca13 rfl (fun w' _ => Strict_c w' (layL s) (by omega)) ?_
    rw [strictV, take_lay0, if_pos rfl]
    refine RW.move rfl rfl ?_
    refine RW.extract rfl rfl rfl ?_
    refine RW.extract rfl rfl rfl ?_
    refine RW.assign rfl rfl ?_
    refine RW.assign rfl rfl ?_
    refine RW.nil (EX.seq (CW.seq (CW.region ?_)))
    refine RW.move rfl rfl ?_
    refine RW.move rfl rfl ?_
    -- mq: op 2: ('Op.call', ('Call.mk', ('Callee.value', ('Operand.func', '14')), ('arr', ('Operand.tmp', '18')), ('arr', '9'))) -> slot 19 ("law.go:23")
    refine RW.call rfl ca14 rfl (fun w' _ => refLay_c w' s (by omega)) ?_
    refine RW.eqlS rfl rfl rfl ?_
    refine RW.move rfl rfl ?_
    refine RW.guardT rfl rfl (by simp) ?_
    refine RW.move rfl rfl ?_
    refine RW.guardT rfl rfl (by simp) ?_
    -- mq: op 6: ('Op.call', ('Call.mk', ('Callee.value', ('Operand.func', '12')), ('arr', ('Operand.tmp', '22')), ('arr', '9'))) -> slot 23 ("law.go:23")
    refine RW.call rfl ca12 rfl (fun w' _ => Take_c w' (layL s) (by omega)) ?_
    rw [take_lay0]
    refine RW.guardT rfl rfl (by simp) ?_
    refine RW.move rfl rfl ?_
    refine RW.guardT rfl rfl (by simp) ?_
    refine RW.eqlS rfl rfl rfl ?_
    refine RW.pickB rfl rfl (by simp) rfl ?_
    refine RW.move rfl rfl ?_
    refine RW.guardT rfl rfl (by simp) ?_
    refine RW.move rfl rfl ?_
    refine RW.pickB rfl rfl (by simp) rfl ?_
    refine RW.move rfl rfl ?_
    refine RW.guardT rfl rfl rfl ?_
    refine RW.move rfl rfl ?_
    refine RW.guardT rfl rfl rfl ?_
    refine RW.move rfl rfl ?_
    refine RW.guardT rfl rfl rfl ?_
    refine RW.eqlS rfl rfl rfl ?_
    refine RW.pickB rfl rfl rfl rfl ?_
    refine RW.move rfl rfl ?_
    refine RW.guardT rfl rfl (by simp) ?_
    -- mq: op 19: ('Op.call', ('Call.mk', ('Callee.value', ('Operand.func', '8')), ('arr',), ('arr',))) -> slot 36 ("law.go:23")
    refine RW.call rfl ca8 rfl (fun w' _ => awake_c w') ?_
    refine RW.pickB rfl rfl (by simp) rfl ?_
    refine RW.assign rfl rfl ?_
    refine RW.nil (EX.seq (CW.ret ?_))
    refine EX.fin1 Try.results5 rfl (fun wz hw => ?_)
    -- mq: done
    exact ⟨rfl, hw.ext⟩
theorem takes_c (w : World) (s : List UInt8) :
    Calls Try.prog 6 [.string (bs s)].toArray w (fun e w' => e = .returned (.bool true) ∧ Ext [] w w') := by
  refine calls (n := 49) Try.func6 rfl Try.ntmps6 rfl ?_
  refine CW.sub (H' := SH w [] []) ?_ (Sub.refl _) (fun x hx => SH.start' _ _ hx)
  refine CW.seq (CW.region ?_)
  refine RW.assign rfl rfl ?_
  refine RW.nil (EX.seq (CW.seq (CW.seq (CW.region ?_))))
  refine RW.move rfl rfl ?_
  refine RW.lenS Try.underlying9 rfl rfl ?_
  refine RW.gtr rfl rfl rfl ?_
  refine RW.nil (EX.seq ?_)
  -- mq: cond
  first | refine CW.condD rfl (fun h1 => ?_) (fun h1 => ?_) | refine CW.cond rfl (fun h1 => ?_) (fun h1 => ?_)
  · skip
    refine CW.seq (CW.region ?_)
    refine RW.call rfl ca8 rfl (fun w' _ => awake_c w') ?_
    refine RW.assign rfl rfl ?_
    refine RW.nil (EX.seq (CW.ret (EX.seqR ?_)))
    refine EX.fin1 Try.results6 rfl (fun wz hw => ?_)
    -- mq: done
    exact ⟨rfl, hw.ext⟩
  · skip
    refine CW.skip (EX.seq (CW.seq (CW.region ?_)))
    refine RW.move rfl rfl ?_
    -- mq: op 1: ('Op.call', ('Call.mk', ('Callee.value', ('Operand.func', '15')), ('arr', ('Operand.tmp', '12')), ('arr', '9'))) -> slot 13 ("law.go:31")
    refine RW.call rfl ca15 rfl (fun w' _ => refTake_c w' s (by omega)) ?_
    cases hall : (takeL s).2 with
    | true =>
      refine RW.move rfl rfl ?_
      refine RW.extract rfl rfl rfl ?_
      refine RW.extract rfl rfl rfl ?_
      refine RW.assign rfl rfl ?_
      refine RW.assign rfl rfl ?_
      refine RW.nil (EX.seq (CW.seq (CW.region ?_)))
      refine RW.move rfl rfl ?_
      -- mq: op 1: ('Op.call', ('Call.mk', ('Callee.value', ('Operand.func', '13')), ('arr', ('Operand.tmp', '17')), ('arr', '9'))) -> slot 18 ("law.go:32")
      refine RW.call rfl ca13 rfl (fun w' _ => Strict_c w' s (by omega)) ?_
      rw [strictV, if_pos hall]
      refine RW.move rfl rfl ?_
      refine RW.extract rfl rfl rfl ?_
      refine RW.extract rfl rfl rfl ?_
      refine RW.assign rfl rfl ?_
      refine RW.assign rfl rfl ?_
      refine RW.nil (EX.seq (CW.seq (CW.region ?_)))
      refine RW.move rfl rfl ?_
      -- mq: op 1: ('Op.call', ('Call.mk', ('Callee.value', ('Operand.func', '12')), ('arr', ('Operand.tmp', '21')), ('arr', '9'))) -> slot 22 ("law.go:33")
      refine RW.call rfl ca12 rfl (fun w' _ => Take_c w' s (by omega)) ?_
      refine RW.move rfl rfl ?_
      refine RW.eqlS rfl rfl rfl ?_
      refine RW.move rfl rfl ?_
      refine RW.guardT rfl rfl (by simp) ?_
      refine RW.move rfl rfl ?_
      refine RW.guardT rfl rfl (by simp) ?_
      refine RW.move rfl rfl ?_
      refine RW.guardT rfl rfl (by simp) ?_
      refine RW.eqlB Try.underlying4 rfl rfl rfl ?_
      refine RW.pickB rfl rfl (by simp) rfl ?_
      refine RW.move rfl rfl ?_
      refine RW.guardT rfl rfl rfl ?_
      refine RW.move rfl rfl ?_
      refine RW.guardT rfl rfl rfl ?_
      refine RW.move rfl rfl ?_
      refine RW.guardT rfl rfl rfl ?_
      refine RW.move rfl rfl ?_
      refine RW.guardT rfl rfl rfl ?_
      refine RW.move rfl rfl ?_
      refine RW.guardT rfl rfl rfl ?_
      refine RW.eqlS rfl rfl rfl ?_
      refine RW.guardT rfl rfl rfl ?_
      refine RW.pickB rfl rfl rfl rfl ?_
      refine RW.guardT rfl rfl rfl ?_
      refine RW.move rfl rfl ?_
      refine RW.guardF rfl rfl rfl (by simp) ?_
      refine RW.guardF rfl rfl rfl (by simp) ?_
      refine RW.guardF rfl rfl rfl (by simp) ?_
      refine RW.guardU rfl rfl rfl ?_
      refine RW.guardU rfl rfl rfl ?_
      refine RW.guardF rfl rfl rfl (by simp) ?_
      refine RW.guardT rfl rfl rfl ?_
      refine RW.pickB rfl rfl (by simp) rfl ?_
      refine RW.pickB rfl rfl rfl rfl ?_
      refine RW.move rfl rfl ?_
      refine RW.guardT rfl rfl rfl ?_
      -- mq: op 26: ('Op.call', ('Call.mk', ('Callee.value', ('Operand.func', '8')), ('arr',), ('arr',))) -> slot 47 ("law.go:33")
      refine RW.call rfl ca8 rfl (fun w' _ => awake_c w') ?_
      refine RW.pickB rfl rfl rfl rfl ?_
      refine RW.assign rfl rfl ?_
      refine RW.nil (EX.seq (CW.ret ?_))
      refine EX.fin1 Try.results6 rfl (fun wz hw => ?_)
      -- mq: done
      exact ⟨rfl, hw.ext⟩
    | false =>
      refine RW.move rfl rfl ?_
      refine RW.extract rfl rfl rfl ?_
      refine RW.extract rfl rfl rfl ?_
      refine RW.assign rfl rfl ?_
      refine RW.assign rfl rfl ?_
      refine RW.nil (EX.seq (CW.seq (CW.region ?_)))
      refine RW.move rfl rfl ?_
      -- mq: op 1: ('Op.call', ('Call.mk', ('Callee.value', ('Operand.func', '13')), ('arr', ('Operand.tmp', '17')), ('arr', '9'))) -> slot 18 ("law.go:32")
      refine RW.call rfl ca13 rfl (fun w' _ => Strict_c w' s (by omega)) ?_
      rw [strictV, if_neg (by simp [hall])]
      refine RW.move rfl rfl ?_
      refine RW.extract rfl rfl rfl ?_
      refine RW.extract rfl rfl rfl ?_
      refine RW.assign rfl rfl ?_
      refine RW.assign rfl rfl ?_
      refine RW.nil (EX.seq (CW.seq (CW.region ?_)))
      refine RW.move rfl rfl ?_
      -- mq: op 1: ('Op.call', ('Call.mk', ('Callee.value', ('Operand.func', '12')), ('arr', ('Operand.tmp', '21')), ('arr', '9'))) -> slot 22 ("law.go:33")
      refine RW.call rfl ca12 rfl (fun w' _ => Take_c w' s (by omega)) ?_
      refine RW.move rfl rfl ?_
      refine RW.eqlS rfl rfl rfl ?_
      refine RW.move rfl rfl ?_
      refine RW.guardT rfl rfl (by simp) ?_
      refine RW.move rfl rfl ?_
      refine RW.guardT rfl rfl (by simp) ?_
      refine RW.move rfl rfl ?_
      refine RW.guardT rfl rfl (by simp) ?_
      refine RW.eqlB Try.underlying4 rfl rfl rfl ?_
      refine RW.pickB rfl rfl (by simp) rfl ?_
      refine RW.move rfl rfl ?_
      refine RW.guardT rfl rfl rfl ?_
      refine RW.move rfl rfl ?_
      refine RW.guardT rfl rfl rfl ?_
      refine RW.move rfl rfl ?_
      refine RW.guardF rfl rfl rfl rfl ?_
      refine RW.guardF rfl rfl rfl rfl ?_
      refine RW.guardF rfl rfl rfl rfl ?_
      refine RW.guardT rfl rfl rfl ?_
      refine RW.pickC rfl rfl rfl rfl ?_
      refine RW.guardT rfl rfl rfl ?_
      refine RW.move rfl rfl ?_
      refine RW.guardT rfl rfl rfl ?_
      refine RW.move rfl rfl ?_
      refine RW.guardT rfl rfl rfl ?_
      refine RW.not_ rfl rfl ?_
      refine RW.guardT rfl rfl rfl ?_
      refine RW.move rfl rfl ?_
      refine RW.guardT rfl rfl rfl ?_
      refine RW.move rfl rfl ?_
      refine RW.guardT rfl rfl rfl ?_
      refine RW.eqlS rfl rfl rfl ?_
      refine RW.guardT rfl rfl rfl ?_
      refine RW.pickB rfl rfl rfl rfl ?_
      refine RW.guardT rfl rfl rfl ?_
      refine RW.pickC rfl rfl rfl rfl ?_
      refine RW.pickB rfl rfl rfl rfl ?_
      refine RW.move rfl rfl ?_
      refine RW.guardT rfl rfl rfl ?_
      -- mq: op 26: ('Op.call', ('Call.mk', ('Callee.value', ('Operand.func', '8')), ('arr',), ('arr',))) -> slot 47 ("law.go:33")
      refine RW.call rfl ca8 rfl (fun w' _ => awake_c w') ?_
      refine RW.pickB rfl rfl rfl rfl ?_
      refine RW.assign rfl rfl ?_
      refine RW.nil (EX.seq (CW.ret ?_))
      refine EX.fin1 Try.results6 rfl (fun wz hw => ?_)
      -- mq: done
      exact ⟨rfl, hw.ext⟩
/-- an address that was made is read as what it was made of -/
theorem file_make {h p : List UInt8} (hr : rightB h p = true) : fileL (schemeL ++ h ++ layL p) = some (h, p) := by
  simp only [rightB, Bool.and_eq_true, decide_eq_true_eq] at hr
  obtain ⟨h1, h2⟩ := hr
  cases p with
  | nil => simp at h1
  | cons c p =>
  simp only [List.head?_cons, Option.some.injEq] at h1
  subst h1
  have hp47 : plainB 47 = true := by decide
  have hlay : layL (47 :: p) = 47 :: layL p := by simp [layL, layB, hp47]
  have hd7 : (schemeL ++ h ++ layL (47 :: p)).drop 7 = h ++ 47 :: layL p := by rw [hlay, List.append_assoc]; rfl
  have ht7 : (schemeL ++ h ++ layL (47 :: p)).take 7 = schemeL := by rw [List.append_assoc]; rfl
  have hlow : lowL schemeL = schemeL := by decide
  have hib : Lib.indexByte (h ++ 47 :: layL p) 47 = (h.length : Int) := by
    rcases ib_cases (h ++ 47 :: layL p) 47 with ⟨e, _⟩ | ⟨pre, post, e1, e2, e3⟩
    · exact absurd (by simp) e
    · rw [e3]
      rcases List.append_eq_append_iff.1 e1 with ⟨zs, g1, g2⟩ | ⟨zs, g1, g2⟩
      · cases zs with
        | nil => have := congrArg List.length g1; simp at this; omega
        | cons y zs =>
          simp only [List.cons_append, List.cons.injEq] at g2
          exact absurd (by rw [g1, ← g2.1]; simp) e2
      · cases zs with
        | nil => have := congrArg List.length g1; simp at this; omega
        | cons y zs =>
          simp only [List.cons_append, List.cons.injEq] at g2
          exact absurd (by rw [g1, ← g2.1]; simp) h2
  have hl : 7 ≤ (schemeL ++ h ++ layL (47 :: p)).length := by rw [List.append_assoc, List.length_append]; show 7 ≤ 7 + _; omega
  rw [fileL, if_pos ⟨hl, by rw [ht7, hlow]⟩, hd7, hib, if_neg (by omega)]
  simp only [Int.toNat_natCast]
  rw [List.take_left', List.drop_left', ← hlay, take_lay0] <;> rfl
theorem makes_c (w : World) (h p : List UInt8) (hsz : h.length ≤ 140737488351232 ∧ p.length ≤ 140737488351232) :
    Calls Try.prog 7 [.string (bs h), .string (bs p)].toArray w (fun e w' => e = .returned (.bool true) ∧ Ext [] w w') := by
  have hll := layL_length p
  refine calls (n := 91) Try.func7 rfl Try.ntmps7 rfl ?_
  refine CW.sub (H' := SH w [] []) ?_ (Sub.refl _) (fun x hx => SH.start' _ _ hx)
  refine CW.seq (CW.region ?_)
  refine RW.assign rfl rfl ?_
  refine RW.nil (EX.seq (CW.seq (CW.seq (CW.region ?_))))
  refine RW.move rfl rfl ?_
  refine RW.lenS Try.underlying9 rfl rfl ?_
  refine RW.move rfl rfl ?_
  refine RW.lenS Try.underlying9 rfl rfl ?_
  refine RW.add rfl rfl rfl (wrap64 (by omega) (by omega)) ?_
  refine RW.gtr rfl rfl rfl ?_
  refine RW.nil (EX.seq ?_)
  -- mq: cond
  first | refine CW.condD rfl (fun h1 => ?_) (fun h1 => ?_) | refine CW.cond rfl (fun h1 => ?_) (fun h1 => ?_)
  · skip
    refine CW.seq (CW.region ?_)
    refine RW.call rfl ca8 rfl (fun w' _ => awake_c w') ?_
    refine RW.assign rfl rfl ?_
    refine RW.nil (EX.seq (CW.ret (EX.seqR ?_)))
    refine EX.fin1 Try.results7 rfl (fun wz hw => ?_)
    -- mq: done
    exact ⟨rfl, hw.ext⟩
  · skip
    refine CW.skip (EX.seq (CW.seq (CW.region ?_)))
    refine RW.move rfl rfl ?_
    refine RW.move rfl rfl ?_
    -- mq: op 2: ('Op.call', ('Call.mk', ('Callee.value', ('Operand.func', '16')), ('arr', ('Operand.tmp', '20'), ('Operand.tmp', '21')), ('arr', '9', '9'))) -> slot 22 ("law.go:54")
    refine RW.call rfl ca16 rfl (fun w' _ => Make_c w' h p (by omega)) ?_
    obtain ⟨mk, er, hmk⟩ : ∃ mk er, makeV h p = .tuple #[.string (bs mk), .int .i64 er] := by unfold makeV; split <;> exact ⟨_, _, rfl⟩
    have hmk2 : (rightB h p = true ∧ mk = schemeL ++ h ++ layL p ∧ er = 0) ∨ (rightB h p = false ∧ mk = [] ∧ er = 4) := by
      unfold makeV at hmk
      split at hmk
      · rename_i hr
        simp only [Value.tuple.injEq, Array.mk.injEq, List.cons.injEq, Value.string.injEq, Value.int.injEq, true_and, and_true, ByteArray.mk.injEq] at hmk
        exact .inl ⟨hr, hmk.1.symm, hmk.2.symm⟩
      · rename_i hr
        simp only [Value.tuple.injEq, Array.mk.injEq, List.cons.injEq, Value.string.injEq, Value.int.injEq, true_and, and_true, ByteArray.mk.injEq] at hmk
        exact .inr ⟨by simpa using hr, hmk.1.symm, hmk.2.symm⟩
    rw [hmk]
    refine RW.move rfl rfl ?_
    refine RW.extract rfl rfl rfl ?_
    refine RW.extract rfl rfl rfl ?_
    refine RW.assign rfl rfl ?_
    refine RW.assign rfl rfl ?_
    refine RW.nil (EX.seq (CW.seq ?_))
    -- mq: region
    refine CW.join ([(0, .string (bs h)), (1, .string (bs p)), (5, .string (bs mk)), (6, .int .i64 er), (7, .bool (decide (p.head? = some 47)))]) (SH w [] []) ?_ ?_
    · skip
      refine CW.region ?_
      refine RW.move rfl rfl ?_
      refine RW.lenS Try.underlying9 rfl rfl ?_
      refine RW.gtr rfl rfl rfl ?_
      refine RW.move rfl rfl ?_
      -- mq: guard slot 28
      refine RW.casesB 28 rfl (fun h28 => ?_) (fun h28 => ?_)
      · skip
        have h28p := of_decide_eq_true h28
        cases p with
        | nil => simp at h28p
        | cons c p =>
        refine RW.guardT rfl rfl h28 ?_
        refine RW.move rfl rfl ?_
        refine RW.guardT rfl rfl h28 ?_
        refine RW.ixStr (q := 0) Try.underlying9 rfl rfl rfl (by rfl) (rfl : (c :: p)[0]? = some c) ?_
        refine RW.guardT rfl rfl h28 ?_
        refine RW.eqlI rfl rfl rfl ?_
        refine RW.pickB rfl rfl h28 rfl ?_
        refine RW.assign rfl rfl ?_
        refine RW.nil ?_
        -- mq: joinend
        refine EX.jn (Sub.cons (by rfl) (Sub.cons (by rfl) (Sub.cons (by rfl) (Sub.cons (by rfl) (Sub.cons (congrArg (fun x => some (Value.bool x)) ?_) Sub.nil))))) (fun _ h => h)
        have e : (47 : UInt8).toNat = 47 := rfl
        by_cases hc : c = 47
        · subst hc; simp [e]
        · have : ¬ (c.toNat : Int) = 47 := fun h => hc (UInt8.toNat_inj.1 (by omega))
          simp [hc, this]
      · skip
        have h28p := of_decide_eq_false h28
        refine RW.guardF rfl rfl rfl h28 ?_
        refine RW.guardF rfl rfl rfl h28 ?_
        refine RW.guardF rfl rfl rfl h28 ?_
        refine RW.pickC rfl rfl h28 rfl ?_
        refine RW.assign rfl rfl ?_
        refine RW.nil ?_
        -- mq: joinend
        have hp0 : p = [] := List.eq_nil_of_length_eq_zero (by omega)
        subst hp0
        exact EX.jn (by repeat (first | exact Sub.nil | refine Sub.cons (by rfl) ?_)) (fun _ h => h)
    · skip
      refine EX.seq (CW.seq (CW.seq (CW.region ?_)))
      refine RW.assign rfl rfl ?_
      refine RW.nil (EX.seq (CW.block ?_))
      -- mq: loop
      refine CW.loop (ι := Nat) (fun k => [(0, .string (bs h)), (1, .string (bs p)), (5, .string (bs mk)), (6, .int .i64 er), (7, .bool (decide (p.head? = some 47) && decide (47 ∉ h.take k))), (8, .int .i64 (k : Int))]) (fun _ => SH w [] []) (fun k => k ≤ h.length) (fun k => h.length - k) ?_ ?_
      · exact fun w' hw' => ⟨0, Nat.zero_le _, Sub.cons (by rfl) (Sub.cons (by rfl) (Sub.cons (by rfl) (Sub.cons (by rfl) (Sub.cons (by simp [look]) (Sub.cons (by rfl) Sub.nil))))), hw'⟩
      · rintro k hk
        refine CW.seq (CW.seq (CW.region ?_))
        refine RW.move rfl rfl ?_
        refine RW.move rfl rfl ?_
        refine RW.lenS Try.underlying9 rfl rfl ?_
        refine RW.lss rfl rfl rfl ?_
        refine RW.nil (EX.seq ?_)
        -- mq: cond
        first | refine CW.condD rfl (fun hlt => ?_) (fun hlt => ?_) | refine CW.cond rfl (fun hlt => ?_) (fun hlt => ?_)
        · skip
          obtain ⟨c, hc⟩ : ∃ c, h[k]? = some c := ⟨h[k]'(by omega), List.getElem?_eq_getElem _⟩
          have htk : decide (47 ∉ h.take (k + 1)) = (decide (47 ∉ h.take k) && decide (c ≠ 47)) := by
            rw [List.take_add_one, hc]
            by_cases e1 : (47 : UInt8) ∈ h.take k <;> by_cases e2 : c = 47 <;> simp [e1, e2, Ne.symm]
          have e47 : (47 : UInt8).toNat = 47 := rfl
          refine CW.skip (EX.seq (CW.seq (CW.block (CW.region ?_))))
          refine RW.move rfl rfl ?_
          refine RW.move rfl rfl ?_
          -- mq: guard slot 40
          refine RW.casesB 40 rfl (fun h40 => ?_) (fun h40 => ?_)
          · skip
            refine RW.guardT rfl rfl h40 ?_
            refine RW.move rfl rfl ?_
            refine RW.guardT rfl rfl h40 ?_
            refine RW.move rfl rfl ?_
            refine RW.guardT rfl rfl h40 ?_
            refine RW.ixStr (q := k) Try.underlying9 rfl rfl rfl (by omega) hc ?_
            refine RW.guardT rfl rfl h40 ?_
            refine RW.neqI rfl rfl rfl ?_
            refine RW.pickB rfl rfl h40 rfl ?_
            refine RW.assign rfl rfl ?_
            refine RW.nil (EX.bkN (EX.seq (CW.region ?_)))
            refine RW.move rfl rfl ?_
            refine RW.add rfl rfl rfl (wrap64 (by omega) (by omega)) ?_
            refine RW.assign rfl rfl ?_
            refine RW.nil ?_
            -- mq: loopend
            refine EX.lpN (k + 1) (by omega) (by omega) (Sub.cons (by rfl) (Sub.cons (by rfl) (Sub.cons (by rfl) (Sub.cons (by rfl) (Sub.cons (congrArg (fun x => some (Value.bool x)) ?_) (Sub.cons (by rfl) Sub.nil)))))) (fun w' hw' => hw')
            rw [htk, ← Bool.and_assoc, h40, Bool.true_and]
            by_cases hc47 : c = 47
            · subst hc47; simp [e47]
            · have : ¬ (c.toNat : Int) = 47 := fun h => hc47 (UInt8.toNat_inj.1 (by omega))
              simp [hc47, this]
          · skip
            refine RW.guardF rfl rfl rfl h40 ?_
            refine RW.guardF rfl rfl rfl h40 ?_
            refine RW.guardF rfl rfl rfl h40 ?_
            refine RW.guardF rfl rfl rfl h40 ?_
            refine RW.pickC rfl rfl h40 rfl ?_
            refine RW.assign rfl rfl ?_
            refine RW.nil (EX.bkN (EX.seq (CW.region ?_)))
            refine RW.move rfl rfl ?_
            refine RW.add rfl rfl rfl (wrap64 (by omega) (by omega)) ?_
            refine RW.assign rfl rfl ?_
            refine RW.nil ?_
            -- mq: loopend
            refine EX.lpN (k + 1) (by omega) (by omega) (Sub.cons (by rfl) (Sub.cons (by rfl) (Sub.cons (by rfl) (Sub.cons (by rfl) (Sub.cons (congrArg (fun x => some (Value.bool x)) ?_) (Sub.cons (by rfl) Sub.nil)))))) (fun w' hw' => hw')
            rw [htk, ← Bool.and_assoc, h40, Bool.false_and]
        · skip
          have hkl : k = h.length := by omega
          subst hkl
          rw [List.take_length]
          refine CW.exit (EX.seqE (EX.lpE (EX.bkE (EX.seq (CW.seq (CW.seq (CW.region ?_)))))))
          refine RW.move rfl rfl ?_
          refine RW.not_ rfl rfl ?_
          refine RW.nil (EX.seq ?_)
          -- mq: cond
          rcases hmk2 with ⟨hr, rfl, rfl⟩ | ⟨hr, rfl, rfl⟩
          · skip
            have hr' : (decide (p.head? = some 47) && decide (47 ∉ h)) = true := hr
            rw [hr']
            refine CW.condF rfl (rfl) ?_
            refine CW.skip (EX.seq (CW.seq (CW.region ?_)))
            refine RW.move rfl rfl ?_
            -- mq: op 1: ('Op.call', ('Call.mk', ('Callee.value', ('Operand.func', '9')), ('arr', ('Operand.tmp', '58')), ('arr', '9'))) -> slot 59 ("law.go:62")
            refine RW.call rfl ca9 rfl (fun w' _ => File_c w' _ (by rw [List.append_assoc, List.length_append, List.length_append]; show 7 + _ ≤ _; omega)) ?_
            rw [fileV, file_make hr]
            dsimp only
            refine RW.move rfl rfl ?_
            refine RW.extract rfl rfl rfl ?_
            refine RW.extract rfl rfl rfl ?_
            refine RW.extract rfl rfl rfl ?_
            refine RW.assign rfl rfl ?_
            refine RW.assign rfl rfl ?_
            refine RW.assign rfl rfl ?_
            refine RW.nil (EX.seq (CW.seq ?_))
            -- mq: region
            refine CW.region ?_
            refine RW.move rfl rfl ?_
            refine RW.eqlI rfl rfl rfl ?_
            refine RW.move rfl rfl ?_
            refine RW.guardT rfl rfl rfl ?_
            refine RW.move rfl rfl ?_
            refine RW.guardT rfl rfl rfl ?_
            refine RW.eqlI rfl rfl rfl ?_
            refine RW.pickB rfl rfl rfl rfl ?_
            refine RW.move rfl rfl ?_
            refine RW.guardT rfl rfl rfl ?_
            refine RW.move rfl rfl ?_
            refine RW.guardT rfl rfl rfl ?_
            refine RW.move rfl rfl ?_
            -- mq: at
            refine RW.guardT rfl rfl rfl ?_
            refine RW.catS (s := schemeL) rfl rfl rfl (by show ((7 + _ : Nat) : Int) ≤ _; omega) ?_
            refine RW.guardT rfl rfl rfl ?_
            refine RW.move rfl rfl ?_
            refine RW.guardT rfl rfl rfl ?_
            -- mq: op 11: ('Op.call', ('Call.mk', ('Callee.value', ('Operand.func', '14')), ('arr', ('Operand.tmp', '73')), ('arr', '9'))) -> slot 74 ("law.go:63")
            refine RW.call rfl ca14 rfl (fun w' _ => refLay_c w' p (by omega)) ?_
            -- mq: at
            refine RW.guardT rfl rfl rfl ?_
            refine RW.catS (s := schemeL ++ h) rfl rfl rfl (by rw [List.length_append]; show ((7 + _ + _ : Nat) : Int) ≤ _; omega) ?_
            refine RW.guardT rfl rfl rfl ?_
            refine RW.eqlS rfl rfl rfl ?_
            refine RW.pickB rfl rfl rfl rfl ?_
            refine RW.move rfl rfl ?_
            refine RW.guardT rfl rfl (by simp) ?_
            refine RW.move rfl rfl ?_
            refine RW.guardT rfl rfl (by simp) ?_
            refine RW.move rfl rfl ?_
            refine RW.guardT rfl rfl (by simp) ?_
            refine RW.eqlS rfl rfl rfl ?_
            refine RW.pickB rfl rfl (by simp) rfl ?_
            refine RW.move rfl rfl ?_
            refine RW.guardT rfl rfl (by simp) ?_
            refine RW.move rfl rfl ?_
            refine RW.guardT rfl rfl (by simp) ?_
            refine RW.move rfl rfl ?_
            refine RW.guardT rfl rfl (by simp) ?_
            refine RW.eqlS rfl rfl rfl ?_
            refine RW.pickB rfl rfl (by simp) rfl ?_
            refine RW.move rfl rfl ?_
            refine RW.guardT rfl rfl (by simp) ?_
            -- mq: op 26: ('Op.call', ('Call.mk', ('Callee.value', ('Operand.func', '8')), ('arr',), ('arr',))) -> slot 89 ("law.go:63")
            refine RW.call rfl ca8 rfl (fun w' _ => awake_c w') ?_
            refine RW.pickB rfl rfl (by simp) rfl ?_
            refine RW.assign rfl rfl ?_
            refine RW.nil (EX.seq (CW.ret ?_))
            refine EX.fin1 Try.results7 rfl (fun wz hw => ?_)
            -- mq: done
            exact ⟨rfl, hw.ext⟩
          · skip
            have hr' : (decide (p.head? = some 47) && decide (47 ∉ h)) = false := hr
            rw [hr']
            refine CW.condT rfl (rfl) ?_
            refine CW.seq (CW.region ?_)
            refine RW.move rfl rfl ?_
            refine RW.eqlS rfl rfl rfl ?_
            refine RW.move rfl rfl ?_
            refine RW.guardT rfl rfl rfl ?_
            refine RW.move rfl rfl ?_
            refine RW.guardT rfl rfl rfl ?_
            refine RW.eqlI rfl rfl rfl ?_
            refine RW.pickB rfl rfl rfl rfl ?_
            refine RW.move rfl rfl ?_
            refine RW.guardT rfl rfl rfl ?_
            -- mq: op 7: ('Op.call', ('Call.mk', ('Callee.value', ('Operand.func', '8')), ('arr',), ('arr',))) -> slot 55 ("law.go:60")
            refine RW.call rfl ca8 rfl (fun w' _ => awake_c w') ?_
            refine RW.pickB rfl rfl rfl rfl ?_
            refine RW.assign rfl rfl ?_
            refine RW.nil (EX.seq (CW.ret (EX.seqR ?_)))
            refine EX.fin1 Try.results7 rfl (fun wz hw => ?_)
            -- mq: done
            exact ⟨rfl, hw.ext⟩
end Go.Proofs.Ytkabehgjgicckaa.Mq
