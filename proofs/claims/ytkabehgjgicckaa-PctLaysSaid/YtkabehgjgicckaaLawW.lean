/- walks: the statements of chapter 16 -/
import Derived.Test.YtkabehgjgicckaaRef2
namespace Go.Proofs.Ytkabehgjgicckaa.Mq
open Go Go.RowKit Go.Proofs

def exF : List UInt8 := [102, 105, 108, 101, 58, 47, 47, 104, 47, 97, 37, 50, 48, 98]
set_option maxRecDepth 100000 in
theorem exF_file : fileL exF = some ([104], [47, 97, 32, 98]) := by decide
theorem exF_lay : layL [97, 32, 98, 37] = [97, 37, 50, 48, 98, 37, 50, 53] := by decide
theorem awake_c (w : World) : Calls Try.prog 8 [].toArray w (fun e w' => e = .returned (.bool true) ∧ Ext [] w w') := by
  refine calls (n := 23) Try.func8 rfl Try.ntmps8 rfl ?_
  refine CW.sub (H' := SH w [] []) ?_ (Sub.refl _) (fun x hx => SH.start' _ _ hx)
  refine CW.seq (CW.region ?_)
  refine RW.assign rfl rfl ?_
  refine RW.nil (EX.seq (CW.seq ?_))
  -- mq: region
  refine CW.region ?_
  -- mq: at
  refine RW.call rfl ca9 rfl (fun w' _ => File_c w' exF (by decide)) ?_
  rw [fileV, exF_file]
  refine RW.move rfl rfl ?_
  refine RW.extract rfl rfl rfl ?_
  refine RW.extract rfl rfl rfl ?_
  refine RW.extract rfl rfl rfl ?_
  refine RW.assign rfl rfl ?_
  refine RW.assign rfl rfl ?_
  refine RW.assign rfl rfl ?_
  refine RW.nil (EX.seq (CW.seq (CW.region ?_)))
  refine RW.move rfl rfl ?_
  refine RW.eqlI rfl rfl rfl ?_
  refine RW.move rfl rfl ?_
  refine RW.guardT rfl rfl rfl ?_
  refine RW.move rfl rfl ?_
  refine RW.guardT rfl rfl rfl ?_
  refine RW.eqlS rfl rfl rfl ?_
  refine RW.pickB rfl rfl rfl rfl ?_
  refine RW.move rfl rfl ?_
  refine RW.guardT rfl rfl rfl ?_
  refine RW.move rfl rfl ?_
  refine RW.guardT rfl rfl rfl ?_
  refine RW.eqlS rfl rfl rfl ?_
  refine RW.pickB rfl rfl rfl rfl ?_
  refine RW.move rfl rfl ?_
  refine RW.guardT rfl rfl rfl ?_
  -- mq: op 11: ('Op.call', ('Call.mk', ('Callee.value', ('Operand.func', '11')), ('arr', ('Operand.const', ('Value.string', ('ByteArray.mk', ('arr', '97', '32', '98', '37'))))), ('arr', '9'))) -> slot 20 ("law.go:13")
  refine RW.call rfl ca11 rfl (fun w' _ => Lay_c w' [97, 32, 98, 37] (by decide)) ?_
  rw [exF_lay]
  refine RW.guardT rfl rfl rfl ?_
  refine RW.eqlS rfl rfl rfl ?_
  refine RW.pickB rfl rfl rfl rfl ?_
  refine RW.assign rfl rfl ?_
  refine RW.nil (EX.seq (CW.ret ?_))
  refine EX.fin1 Try.results8 rfl (fun wz hw => ?_)
  -- mq: done
  exact ⟨rfl, hw.ext⟩
theorem files_c (w : World) (s : List UInt8) :
    Calls Try.prog 3 [.string (bs s)].toArray w (fun e w' => e = .returned (.bool true) ∧ Ext [] w w') := by
  refine calls (n := 55) Try.func3 rfl Try.ntmps3 rfl ?_
  refine CW.sub (H' := SH w [] []) ?_ (Sub.refl _) (fun x hx => SH.start' _ _ hx)
  refine CW.seq (CW.region ?_)
  refine RW.assign rfl rfl ?_
  refine RW.nil (EX.seq (CW.seq (CW.seq (CW.region ?_))))
  refine RW.move rfl rfl ?_
  refine RW.lenS Try.underlying9 rfl rfl ?_
  refine RW.gtr rfl rfl rfl ?_
  refine RW.nil (EX.seq ?_)
  -- mq: cond
  first | refine CW.condD rfl (fun h1 => ?_) (fun h1 => ?_) | refine CW.cond rfl (fun h1 => ?_) (fun h1 => ?_)
  · skip
    refine CW.seq (CW.region ?_)
    refine RW.call rfl ca8 rfl (fun w' _ => awake_c w') ?_
    refine RW.assign rfl rfl ?_
    refine RW.nil (EX.seq (CW.ret (EX.seqR ?_)))
    refine EX.fin1 Try.results3 rfl (fun wz hw => ?_)
    -- mq: done
    exact ⟨rfl, hw.ext⟩
  · skip
    refine CW.skip (EX.seq (CW.seq (CW.region ?_)))
    refine RW.move rfl rfl ?_
    -- mq: op 1: ('Op.call', ('Call.mk', ('Callee.value', ('Operand.func', '9')), ('arr', ('Operand.tmp', '14')), ('arr', '9'))) -> slot 15 ("law.go:41")
    refine RW.call rfl ca9 rfl (fun w' _ => File_c w' s (by omega)) ?_
    rw [fileV]
    cases hf : fileL s with
    | none =>
      dsimp only
      refine RW.move rfl rfl ?_
      refine RW.extract rfl rfl rfl ?_
      refine RW.extract rfl rfl rfl ?_
      refine RW.extract rfl rfl rfl ?_
      refine RW.assign rfl rfl ?_
      refine RW.assign rfl rfl ?_
      refine RW.assign rfl rfl ?_
      refine RW.nil (EX.seq (CW.seq ?_))
      -- mq: region
      refine CW.region ?_
      refine RW.move rfl rfl ?_
      -- mq: at
      refine RW.call rfl ca10 rfl (fun w' _ => refFile_c w' s (by omega)) ?_
      rw [fileR, hf]
      refine RW.move rfl rfl ?_
      refine RW.extract rfl rfl rfl ?_
      refine RW.extract rfl rfl rfl ?_
      refine RW.extract rfl rfl rfl ?_
      refine RW.assign rfl rfl ?_
      refine RW.assign rfl rfl ?_
      refine RW.assign rfl rfl ?_
      refine RW.nil (EX.seq (CW.seq (CW.seq (CW.region ?_))))
      refine RW.move rfl rfl ?_
      refine RW.not_ rfl rfl ?_
      refine RW.nil (EX.seq ?_)
      -- mq: cond
      refine CW.condT rfl (rfl) ?_
      refine CW.seq (CW.region ?_)
      refine RW.move rfl rfl ?_
      refine RW.eqlI rfl rfl rfl ?_
      refine RW.move rfl rfl ?_
      refine RW.guardT rfl rfl rfl ?_
      refine RW.move rfl rfl ?_
      refine RW.guardT rfl rfl rfl ?_
      refine RW.eqlS rfl rfl rfl ?_
      refine RW.pickB rfl rfl rfl rfl ?_
      refine RW.move rfl rfl ?_
      refine RW.guardT rfl rfl rfl ?_
      refine RW.move rfl rfl ?_
      refine RW.guardT rfl rfl rfl ?_
      refine RW.eqlS rfl rfl rfl ?_
      refine RW.pickB rfl rfl rfl rfl ?_
      refine RW.move rfl rfl ?_
      refine RW.guardT rfl rfl rfl ?_
      -- mq: op 11: ('Op.call', ('Call.mk', ('Callee.value', ('Operand.func', '8')), ('arr',), ('arr',))) -> slot 38 ("law.go:44")
      refine RW.call rfl ca8 rfl (fun w' _ => awake_c w') ?_
      refine RW.pickB rfl rfl rfl rfl ?_
      refine RW.assign rfl rfl ?_
      refine RW.nil (EX.seq (CW.ret (EX.seqR ?_)))
      refine EX.fin1 Try.results3 rfl (fun wz hw => ?_)
      -- mq: done
      exact ⟨rfl, hw.ext⟩
    | some p =>
      dsimp only
      refine RW.move rfl rfl ?_
      refine RW.extract rfl rfl rfl ?_
      refine RW.extract rfl rfl rfl ?_
      refine RW.extract rfl rfl rfl ?_
      refine RW.assign rfl rfl ?_
      refine RW.assign rfl rfl ?_
      refine RW.assign rfl rfl ?_
      refine RW.nil (EX.seq (CW.seq ?_))
      -- mq: region
      refine CW.region ?_
      refine RW.move rfl rfl ?_
      -- mq: at
      refine RW.call rfl ca10 rfl (fun w' _ => refFile_c w' s (by omega)) ?_
      rw [fileR, hf]
      refine RW.move rfl rfl ?_
      refine RW.extract rfl rfl rfl ?_
      refine RW.extract rfl rfl rfl ?_
      refine RW.extract rfl rfl rfl ?_
      refine RW.assign rfl rfl ?_
      refine RW.assign rfl rfl ?_
      refine RW.assign rfl rfl ?_
      refine RW.nil (EX.seq (CW.seq (CW.seq (CW.region ?_))))
      refine RW.move rfl rfl ?_
      refine RW.not_ rfl rfl ?_
      refine RW.nil (EX.seq ?_)
      -- mq: cond
      refine CW.condF rfl (rfl) ?_
      refine CW.skip (EX.seq (CW.seq (CW.region ?_)))
      refine RW.move rfl rfl ?_
      refine RW.eqlI rfl rfl rfl ?_
      refine RW.move rfl rfl ?_
      refine RW.guardT rfl rfl rfl ?_
      refine RW.move rfl rfl ?_
      refine RW.guardT rfl rfl rfl ?_
      refine RW.move rfl rfl ?_
      refine RW.guardT rfl rfl rfl ?_
      refine RW.eqlS rfl rfl rfl ?_
      refine RW.pickB rfl rfl rfl rfl ?_
      refine RW.move rfl rfl ?_
      refine RW.guardT rfl rfl (by simp) ?_
      refine RW.move rfl rfl ?_
      refine RW.guardT rfl rfl (by simp) ?_
      refine RW.move rfl rfl ?_
      refine RW.guardT rfl rfl (by simp) ?_
      refine RW.eqlS rfl rfl rfl ?_
      refine RW.pickB rfl rfl (by simp) rfl ?_
      refine RW.move rfl rfl ?_
      refine RW.guardT rfl rfl (by simp) ?_
      -- mq: op 13: ('Op.call', ('Call.mk', ('Callee.value', ('Operand.func', '8')), ('arr',), ('arr',))) -> slot 53 ("law.go:46")
      refine RW.call rfl ca8 rfl (fun w' _ => awake_c w') ?_
      refine RW.pickB rfl rfl (by simp) rfl ?_
      refine RW.assign rfl rfl ?_
      refine RW.nil (EX.seq (CW.ret ?_))
      refine EX.fin1 Try.results3 rfl (fun wz hw => ?_)
      -- mq: done
      exact ⟨rfl, hw.ext⟩
theorem joins_c (w : World) (s t : List UInt8) :
    Calls Try.prog 4 [.string (bs s), .string (bs t)].toArray w (fun e w' => e = .returned (.bool true) ∧ Ext [] w w') := by
  have hls := layL_length s
  have hlt := layL_length t
  refine calls (n := 39) Try.func4 rfl Try.ntmps4 rfl ?_
  refine CW.sub (H' := SH w [] []) ?_ (Sub.refl _) (fun x hx => SH.start' _ _ hx)
  refine CW.seq (CW.region ?_)
  refine RW.assign rfl rfl ?_
  refine RW.nil (EX.seq (CW.seq (CW.seq (CW.region ?_))))
  refine RW.move rfl rfl ?_
  refine RW.lenS Try.underlying9 rfl rfl ?_
  refine RW.gtr rfl rfl rfl ?_
  refine RW.move rfl rfl ?_
  -- mq: guard slot 8
  refine RW.casesB 8 rfl (fun h8 => ?_) (fun h8 => ?_)
  · skip
    have h8p := of_decide_eq_true h8
    refine RW.guardF rfl rfl rfl h8 ?_
    refine RW.guardF rfl rfl rfl h8 ?_
    refine RW.guardF rfl rfl rfl h8 ?_
    refine RW.pickB rfl rfl h8 rfl ?_
    refine RW.nil (EX.seq ?_)
    -- mq: cond
    refine CW.condT rfl (rfl) ?_
    refine CW.seq (CW.region ?_)
    refine RW.call rfl ca8 rfl (fun w' _ => awake_c w') ?_
    refine RW.assign rfl rfl ?_
    refine RW.nil (EX.seq (CW.ret (EX.seqR ?_)))
    refine EX.fin1 Try.results4 rfl (fun wz hw => ?_)
    -- mq: done
    exact ⟨rfl, hw.ext⟩
  · skip
    have h8p := of_decide_eq_false h8
    refine RW.guardT rfl rfl h8 ?_
    refine RW.move rfl rfl ?_
    refine RW.guardT rfl rfl h8 ?_
    refine RW.lenS Try.underlying9 rfl rfl ?_
    refine RW.guardT rfl rfl h8 ?_
    refine RW.gtr rfl rfl rfl ?_
    refine RW.pickC rfl rfl h8 rfl ?_
    refine RW.nil (EX.seq ?_)
    -- mq: cond
    first | refine CW.condD rfl (fun h12 => ?_) (fun h12 => ?_) | refine CW.cond rfl (fun h12 => ?_) (fun h12 => ?_)
    · skip
      refine CW.seq (CW.region ?_)
      refine RW.call rfl ca8 rfl (fun w' _ => awake_c w') ?_
      refine RW.assign rfl rfl ?_
      refine RW.nil (EX.seq (CW.ret (EX.seqR ?_)))
      refine EX.fin1 Try.results4 rfl (fun wz hw => ?_)
      -- mq: done
      exact ⟨rfl, hw.ext⟩
    · skip
      refine CW.skip (EX.seq (CW.seq (CW.region ?_)))
      refine RW.move rfl rfl ?_
      refine RW.move rfl rfl ?_
      refine RW.catS rfl rfl rfl (by omega) ?_
      -- mq: op 3: ('Op.call', ('Call.mk', ('Callee.value', ('Operand.func', '11')), ('arr', ('Operand.tmp', '16')), ('arr', '9'))) -> slot 17 ("law.go:71")
      refine RW.call rfl ca11 rfl (fun w' _ => Lay_c w' (s ++ t) (by rw [List.length_append]; omega)) ?_
      refine RW.move rfl rfl ?_
      -- mq: op 5: ('Op.call', ('Call.mk', ('Callee.value', ('Operand.func', '11')), ('arr', ('Operand.tmp', '18')), ('arr', '9'))) -> slot 19 ("law.go:71")
      refine RW.call rfl ca11 rfl (fun w' _ => Lay_c w' s (by omega)) ?_
      refine RW.move rfl rfl ?_
      -- mq: op 7: ('Op.call', ('Call.mk', ('Callee.value', ('Operand.func', '11')), ('arr', ('Operand.tmp', '20')), ('arr', '9'))) -> slot 21 ("law.go:71")
      refine RW.call rfl ca11 rfl (fun w' _ => Lay_c w' t (by omega)) ?_
      refine RW.catS rfl rfl rfl (by omega) ?_
      refine RW.eqlS rfl rfl rfl ?_
      refine RW.move rfl rfl ?_
      refine RW.guardT rfl rfl (by rw [layL_app]; simp) ?_
      refine RW.move rfl rfl ?_
      refine RW.guardT rfl rfl (by rw [layL_app]; simp) ?_
      -- mq: op 12: ('Op.call', ('Call.mk', ('Callee.value', ('Operand.func', '11')), ('arr', ('Operand.tmp', '25')), ('arr', '9'))) -> slot 26 ("law.go:71")
      refine RW.call rfl ca11 rfl (fun w' _ => Lay_c w' s (by omega)) ?_
      refine RW.guardT rfl rfl (by rw [layL_app]; simp) ?_
      refine RW.move rfl rfl ?_
      refine RW.guardT rfl rfl (by rw [layL_app]; simp) ?_
      refine RW.catS rfl rfl rfl (by omega) ?_
      refine RW.guardT rfl rfl (by rw [layL_app]; simp) ?_
      -- mq: op 15: ('Op.call', ('Call.mk', ('Callee.value', ('Operand.func', '12')), ('arr', ('Operand.tmp', '28')), ('arr', '9'))) -> slot 29 ("law.go:71")
      refine RW.call rfl ca12 rfl (fun w' _ => Take_c w' (layL s ++ t) (by rw [List.length_append]; omega)) ?_
      rw [take_lay]
      refine RW.guardT rfl rfl (by rw [layL_app]; simp) ?_
      refine RW.move rfl rfl ?_
      refine RW.guardT rfl rfl (by rw [layL_app]; simp) ?_
      refine RW.move rfl rfl ?_
      refine RW.guardT rfl rfl (by rw [layL_app]; simp) ?_
      -- mq: op 18: ('Op.call', ('Call.mk', ('Callee.value', ('Operand.func', '12')), ('arr', ('Operand.tmp', '31')), ('arr', '9'))) -> slot 32 ("law.go:71")
      have htl := takeL_length _ t (Nat.le_refl _)
      refine RW.call rfl ca12 rfl (fun w' _ => Take_c w' t (by omega)) ?_
      refine RW.guardT rfl rfl (by rw [layL_app]; simp) ?_
      refine RW.catS rfl rfl rfl (by omega) ?_
      refine RW.guardT rfl rfl (by rw [layL_app]; simp) ?_
      refine RW.eqlS rfl rfl rfl ?_
      refine RW.pickB rfl rfl (by rw [layL_app]; simp) rfl ?_
      refine RW.move rfl rfl ?_
      refine RW.guardT rfl rfl (by simp) ?_
      -- mq: op 23: ('Op.call', ('Call.mk', ('Callee.value', ('Operand.func', '8')), ('arr',), ('arr',))) -> slot 37 ("law.go:71")
      refine RW.call rfl ca8 rfl (fun w' _ => awake_c w') ?_
      refine RW.pickB rfl rfl (by simp) rfl ?_
      refine RW.assign rfl rfl ?_
      refine RW.nil (EX.seq (CW.ret ?_))
      refine EX.fin1 Try.results4 rfl (fun wz hw => ?_)
      -- mq: done
      exact ⟨rfl, hw.ext⟩
end Go.Proofs.Ytkabehgjgicckaa.Mq
