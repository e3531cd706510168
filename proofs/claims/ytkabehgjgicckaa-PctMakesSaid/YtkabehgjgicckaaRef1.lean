/- walks: the reference's Plain, digit, Lay, Take -/
import Derived.Test.YtkabehgjgicckaaPk4
namespace Go.Proofs.Ytkabehgjgicckaa.Mq
open Go Go.RowKit Go.Proofs

def letters : List UInt8 := [97, 98, 99, 100, 101, 102, 103, 104, 105, 106, 107, 108, 109, 110, 111, 112, 113, 114, 115, 116, 117, 118, 119, 120, 121, 122, 65, 66, 67, 68, 69, 70, 71, 72, 73, 74, 75, 76, 77, 78, 79, 80, 81, 82, 83, 84, 85, 86, 87, 88, 89, 90, 48, 49, 50, 51, 52, 53, 54, 55, 56, 57, 45, 46, 95, 126, 47]
def hexs : List UInt8 := [48, 49, 50, 51, 52, 53, 54, 55, 56, 57, 97, 98, 99, 100, 101, 102, 48, 49, 50, 51, 52, 53, 54, 55, 56, 57, 65, 66, 67, 68, 69, 70]
set_option maxRecDepth 100000 in
theorem plain_letters : ∀ c : UInt8, plainB c = letters.contains c := by
  refine all_bytes ?_
  decide
set_option maxRecDepth 100000 in
theorem hexI_none : ∀ c : UInt8, hexs.contains c = false → hexI c = -1 := by
  refine all_bytes ?_
  decide
theorem hexI_at : ∀ i : _root_.Fin 32, hexI (hexs.getD i.val 0) = ((i.val % 16 : Nat) : Int) := by decide
theorem not_in {l : List UInt8} {c : UInt8} {k : Nat} (hk : l.length ≤ k) (h : ∀ j, j < k → l[j]? ≠ some c) : l.contains c = false := by
  cases hc : l.contains c with
  | false => rfl
  | true =>
    exfalso
    obtain ⟨j, hj, he⟩ := List.getElem_of_mem (List.contains_iff_mem.1 hc)
    exact h j (by omega) (by rw [List.getElem?_eq_getElem hj, he])
theorem refPlain_c (w : World) (c : UInt8) :
    Calls Try.prog 23 [.int .u8 (c.toNat : Int)].toArray w (fun e w' => e = .returned (.bool (plainB c)) ∧ w' = w) := by
  have hL : letters.length = 67 := rfl
  refine calls (n := 16) Try.func23 rfl Try.ntmps23 rfl ?_
  refine CW.seq (CW.region ?_)
  refine RW.assign rfl rfl ?_
  refine RW.nil (EX.seq (CW.seq (CW.region ?_)))
  refine RW.assign rfl rfl ?_
  refine RW.nil (EX.seq (CW.seq (CW.seq (CW.region ?_))))
  refine RW.assign rfl rfl ?_
  refine RW.nil (EX.seq (CW.block ?_))
  -- mq: loop
  refine CW.loop (ι := Nat) (fun k => [(0, .int .u8 (c.toNat : Int)), (3, .string (bs letters)), (4, .int .i64 (k : Int))]) (fun _ x => x = w) (fun k => k ≤ 67 ∧ ∀ j, j < k → letters[j]? ≠ some c) (fun k => 67 - k) ?_ ?_
  · exact fun w' hw' => ⟨0, ⟨Nat.zero_le _, fun j hj => absurd hj (by omega)⟩, (by repeat (first | exact Sub.nil | refine Sub.cons (by rfl) ?_)), hw'⟩
  · rintro k ⟨hk, hno⟩
    refine CW.seq (CW.seq (CW.region ?_))
    refine RW.move rfl rfl ?_
    refine RW.move rfl rfl ?_
    refine RW.lenS Try.underlying9 rfl rfl ?_
    refine RW.lss rfl rfl rfl ?_
    refine RW.nil (EX.seq ?_)
    -- mq: cond
    first | refine CW.condD rfl (fun hlt => ?_) (fun hlt => ?_) | refine CW.cond rfl (fun hlt => ?_) (fun hlt => ?_)
    · skip
      obtain ⟨x, hx⟩ : ∃ x, letters[k]? = some x := ⟨letters[k]'(by omega), List.getElem?_eq_getElem _⟩
      refine CW.skip (EX.seq (CW.seq (CW.block (CW.seq (CW.region ?_)))))
      refine RW.move rfl rfl ?_
      refine RW.move rfl rfl ?_
      refine RW.ixStr (q := k) Try.underlying9 rfl rfl rfl (by omega) hx ?_
      refine RW.move rfl rfl ?_
      refine RW.eqlI rfl rfl rfl ?_
      refine RW.nil (EX.seq ?_)
      -- mq: cond
      first | refine CW.condD rfl (fun h15 => ?_) (fun h15 => ?_) | refine CW.cond rfl (fun h15 => ?_) (fun h15 => ?_)
      · skip
        have hxc : x = c := UInt8.toNat_inj.1 (by omega)
        subst hxc
        refine CW.seq (CW.region ?_)
        refine RW.assign rfl rfl ?_
        refine RW.nil (EX.seq (CW.ret (EX.bkR (EX.seqR (EX.lpR (EX.bkR (EX.seqR ?_)))))))
        refine EX.fin1 Try.results23 rfl (fun wz hw => ?_)
        -- mq: done
        exact ⟨by rw [plain_letters, List.contains_iff_mem.2 (List.mem_of_getElem? hx)], hw⟩
      · skip
        refine CW.skip (EX.bkN (EX.seq (CW.region ?_)))
        refine RW.move rfl rfl ?_
        refine RW.add rfl rfl rfl (wrap64 (by omega) (by omega)) ?_
        refine RW.assign rfl rfl ?_
        refine RW.nil ?_
        -- mq: loopend
        refine EX.lpN (k + 1) ⟨by omega, fun j hj e => ?_⟩ (by omega) (by repeat (first | exact Sub.nil | refine Sub.cons (by rfl) ?_)) (fun w' hw' => hw')
        by_cases hjk : j = k
        · subst hjk
          rw [hx] at e
          simp only [Option.some.injEq] at e
          exact h15 (by rw [e])
        · exact hno j (by omega) e
    · skip
      refine CW.exit (EX.seqE (EX.lpE (EX.bkE (EX.seq (CW.seq (CW.region ?_))))))
      refine RW.assign rfl rfl ?_
      refine RW.nil (EX.seq (CW.ret ?_))
      refine EX.fin1 Try.results23 rfl (fun wz hw => ?_)
      -- mq: done
      exact ⟨by rw [plain_letters, not_in (by omega) hno], hw⟩
theorem digit_c (w : World) (c : UInt8) :
    Calls Try.prog 24 [.int .u8 (c.toNat : Int)].toArray w (fun e w' => e = .returned (.int .i64 (hexI c)) ∧ w' = w) := by
  have hL : hexs.length = 32 := rfl
  refine calls (n := 18) Try.func24 rfl Try.ntmps24 rfl ?_
  refine CW.seq (CW.region ?_)
  refine RW.assign rfl rfl ?_
  refine RW.nil (EX.seq (CW.seq (CW.region ?_)))
  refine RW.assign rfl rfl ?_
  refine RW.nil (EX.seq (CW.seq (CW.seq (CW.region ?_))))
  refine RW.assign rfl rfl ?_
  refine RW.nil (EX.seq (CW.block ?_))
  -- mq: loop
  refine CW.loop (ι := Nat) (fun k => [(0, .int .u8 (c.toNat : Int)), (3, .string (bs hexs)), (4, .int .i64 (k : Int))]) (fun _ x => x = w) (fun k => k ≤ 32 ∧ ∀ j, j < k → hexs[j]? ≠ some c) (fun k => 32 - k) ?_ ?_
  · exact fun w' hw' => ⟨0, ⟨Nat.zero_le _, fun j hj => absurd hj (by omega)⟩, (by repeat (first | exact Sub.nil | refine Sub.cons (by rfl) ?_)), hw'⟩
  · rintro k ⟨hk, hno⟩
    refine CW.seq (CW.seq (CW.region ?_))
    refine RW.move rfl rfl ?_
    refine RW.move rfl rfl ?_
    refine RW.lenS Try.underlying9 rfl rfl ?_
    refine RW.lss rfl rfl rfl ?_
    refine RW.nil (EX.seq ?_)
    -- mq: cond
    first | refine CW.condD rfl (fun hlt => ?_) (fun hlt => ?_) | refine CW.cond rfl (fun hlt => ?_) (fun hlt => ?_)
    · skip
      obtain ⟨x, hx⟩ : ∃ x, hexs[k]? = some x := ⟨hexs[k]'(by omega), List.getElem?_eq_getElem _⟩
      refine CW.skip (EX.seq (CW.seq (CW.block (CW.seq (CW.region ?_)))))
      refine RW.move rfl rfl ?_
      refine RW.move rfl rfl ?_
      refine RW.ixStr (q := k) Try.underlying9 rfl rfl rfl (by omega) hx ?_
      refine RW.move rfl rfl ?_
      refine RW.eqlI rfl rfl rfl ?_
      refine RW.nil (EX.seq ?_)
      -- mq: cond
      first | refine CW.condD rfl (fun h15 => ?_) (fun h15 => ?_) | refine CW.cond rfl (fun h15 => ?_) (fun h15 => ?_)
      · skip
        have hxc : x = c := UInt8.toNat_inj.1 (by omega)
        subst hxc
        refine CW.seq (CW.region ?_)
        refine RW.move rfl rfl ?_
        refine RW.remN rfl rfl rfl (by omega) (by omega) ?_
        refine RW.assign rfl rfl ?_
        refine RW.nil (EX.seq (CW.ret (EX.bkR (EX.seqR (EX.lpR (EX.bkR (EX.seqR ?_)))))))
        refine EX.fin1 Try.results24 rfl (fun wz hw => ?_)
        -- mq: done
        have := hexI_at ⟨k, by omega⟩
        have hg : hexs.getD k 0 = x := by simp [List.getD, hx]
        dsimp only at this
        rw [hg] at this
        exact ⟨by rw [this]; simp, hw⟩
      · skip
        refine CW.skip (EX.bkN (EX.seq (CW.region ?_)))
        refine RW.move rfl rfl ?_
        refine RW.add rfl rfl rfl (wrap64 (by omega) (by omega)) ?_
        refine RW.assign rfl rfl ?_
        refine RW.nil ?_
        -- mq: loopend
        refine EX.lpN (k + 1) ⟨by omega, fun j hj e => ?_⟩ (by omega) (by repeat (first | exact Sub.nil | refine Sub.cons (by rfl) ?_)) (fun w' hw' => hw')
        by_cases hjk : j = k
        · subst hjk
          rw [hx] at e
          simp only [Option.some.injEq] at e
          exact h15 (by rw [e])
        · exact hno j (by omega) e
    · skip
      refine CW.exit (EX.seqE (EX.lpE (EX.bkE (EX.seq (CW.seq (CW.region ?_))))))
      refine RW.assign rfl rfl ?_
      refine RW.nil (EX.seq (CW.ret ?_))
      refine EX.fin1 Try.results24 rfl (fun wz hw => ?_)
      -- mq: done
      exact ⟨by rw [hexI_none c (not_in (by omega) hno)], hw⟩
theorem refLay_c (w : World) (s : List UInt8) (hs : s.length ≤ 1000000) :
    Calls Try.prog 14 [.string (bs s)].toArray w (fun e w' => e = .returned (.string (bs (layL s))) ∧ Ext [] w w') := by
  have hL : digs.length = 16 := rfl
  refine calls (n := 47) Try.func14 rfl Try.ntmps14 rfl ?_
  refine CW.sub (H' := SH w [] []) ?_ (Sub.refl _) (fun x hx => SH.start' _ _ hx)
  refine CW.seq (CW.region ?_)
  refine RW.assign rfl rfl ?_
  refine RW.nil (EX.seq (CW.seq (CW.region ?_)))
  refine RW.assign rfl rfl ?_
  refine RW.nil (EX.seq (CW.seq (CW.region ?_)))
  refine RW.assign rfl rfl ?_
  refine RW.nil (EX.seq (CW.seq (CW.seq (CW.region ?_))))
  refine RW.assign rfl rfl ?_
  refine RW.nil (EX.seq (CW.block ?_))
  -- mq: loop
  refine CW.loop (ι := Nat) (fun i => [(0, .string (bs s)), (3, .string (bs digs)), (4, .string (bs (layL (s.take i)))), (5, .int .i64 (i : Int))]) (fun _ => SH w [] []) (fun i => i ≤ s.length) (fun i => s.length - i) ?_ ?_
  · exact fun w' hw' => ⟨0, Nat.zero_le _, (by repeat (first | exact Sub.nil | refine Sub.cons (by rfl) ?_)), hw'⟩
  · rintro i hi
    refine CW.seq (CW.seq (CW.region ?_))
    refine RW.move rfl rfl ?_
    refine RW.move rfl rfl ?_
    refine RW.lenS Try.underlying9 rfl rfl ?_
    refine RW.lss rfl rfl rfl ?_
    refine RW.nil (EX.seq ?_)
    -- mq: cond
    first | refine CW.condD rfl (fun hlt => ?_) (fun hlt => ?_) | refine CW.cond rfl (fun hlt => ?_) (fun hlt => ?_)
    · skip
      obtain ⟨c, hcx⟩ : ∃ c, s[i]? = some c := ⟨s[i]'(by omega), List.getElem?_eq_getElem _⟩
      have hc := c.toNat_lt
      have htk : layL (s.take (i + 1)) = layL (s.take i) ++ layB c := by rw [List.take_add_one, hcx, Option.toList_some, layL_app]; simp [layL]
      have hl1 := layL_length (s.take i)
      have hl3 : (s.take i).length ≤ s.length := by rw [List.length_take]; omega
      have hone : (s.take (i + 1)).drop i = [c] := by rw [List.take_add_one, hcx, Option.toList_some, List.drop_append_of_le_length (by rw [List.length_take]; omega), List.drop_eq_nil_of_le (by rw [List.length_take]; omega)]; rfl
      refine CW.skip (EX.seq (CW.seq (CW.block (CW.seq (CW.region ?_)))))
      refine RW.move rfl rfl ?_
      refine RW.move rfl rfl ?_
      refine RW.ixStr (q := i) Try.underlying9 rfl rfl rfl (by omega) hcx ?_
      refine RW.convI rfl rfl Try.underlying5 Try.underlying3 (wrap64 (by omega) (by omega)) ?_
      refine RW.assign rfl rfl ?_
      refine RW.nil (EX.seq (CW.seq ?_))
      -- mq: region
      refine CW.region ?_
      refine RW.move rfl rfl ?_
      refine RW.move rfl rfl ?_
      refine RW.ixStr (q := i) Try.underlying9 rfl rfl rfl (by omega) hcx ?_
      -- mq: op 3: ('Op.call', ('Call.mk', ('Callee.value', ('Operand.func', '23')), ('arr', ('Operand.tmp', '19')), ('arr', '5'))) -> slot 20 ("ref.go:21")
      refine RW.callP rfl ca23 rfl (fun w' _ => refPlain_c w' c) ?_
      refine RW.nil (EX.seq ?_)
      -- mq: cond
      first | refine CW.condD rfl (fun h20 => ?_) (fun h20 => ?_) | refine CW.cond rfl (fun h20 => ?_) (fun h20 => ?_)
      · skip
        refine CW.region ?_
        refine RW.move rfl rfl ?_
        refine RW.move rfl rfl ?_
        refine RW.move rfl rfl ?_
        refine RW.move rfl rfl ?_
        refine RW.add rfl rfl rfl (wrap64 (by omega) (by omega)) ?_
        refine RW.sliceStrLH i (i + 1) Try.underlying9 rfl rfl rfl rfl (by first | rfl | omega) (by first | rfl | omega) (by omega) (by first | omega | (simp; omega)) ?_
        refine RW.catS rfl rfl rfl (by rw [hone]; show ((_ + 1 : Nat) : Int) ≤ _; omega) ?_
        refine RW.assign rfl rfl ?_
        refine RW.nil (EX.bkN (EX.seq (CW.region ?_)))
        refine RW.move rfl rfl ?_
        refine RW.add rfl rfl rfl (wrap64 (by omega) (by omega)) ?_
        refine RW.assign rfl rfl ?_
        refine RW.nil ?_
        -- mq: loopend
        refine EX.lpN (i + 1) (by omega) (by omega) (Sub.cons (by rfl) (Sub.cons (by rfl) (Sub.cons ?_ (Sub.cons (by rfl) Sub.nil)))) (fun w' hw' => hw')
        rw [htk, layB, if_pos h20, hone]
        rfl
      · skip
        -- mq: region
        obtain ⟨a, ha⟩ : ∃ a, digs[c.toNat / 16]? = some a := ⟨digs[c.toNat / 16]'(by omega), List.getElem?_eq_getElem _⟩
        obtain ⟨b, hb⟩ : ∃ b, digs[c.toNat % 16]? = some b := ⟨digs[c.toNat % 16]'(by omega), List.getElem?_eq_getElem _⟩
        have hA : (digs.take (c.toNat / 16 + 1)).drop (c.toNat / 16) = [a] := by rw [List.take_add_one, ha, Option.toList_some, List.drop_append_of_le_length (by rw [List.length_take]; omega), List.drop_eq_nil_of_le (by rw [List.length_take]; omega)]; rfl
        have hB : (digs.take (c.toNat % 16 + 1)).drop (c.toNat % 16) = [b] := by rw [List.take_add_one, hb, Option.toList_some, List.drop_append_of_le_length (by rw [List.length_take]; omega), List.drop_eq_nil_of_le (by rw [List.length_take]; omega)]; rfl
        refine CW.drawq mixed (by kernel_rfl) (fun _ hw => hw.drew) ?_
        refine DRq.cons rfl (RW.move rfl rfl RW.jn) ?_
        refine DRq.cons rfl (RW.catS (t := [37]) rfl rfl rfl (by show ((_ + 1 : Nat) : Int) ≤ _; omega) RW.jn) ?_
        refine DRq.cons rfl (RW.move rfl rfl RW.jn) ?_
        refine DRq.cons rfl (RW.move rfl rfl RW.jn) ?_
        refine DRq.cons rfl (RW.quoN rfl rfl rfl (by omega) (by omega) (by omega) RW.jn) ?_
        refine DRq.cons rfl (RW.move rfl rfl RW.jn) ?_
        refine DRq.cons rfl (RW.quoN rfl rfl rfl (by omega) (by omega) (by omega) RW.jn) ?_
        refine DRq.cons rfl (RW.add rfl rfl rfl (wrap64 (by omega) (by omega)) RW.jn) ?_
        refine DRq.cons rfl (RW.sliceStrLH (c.toNat / 16) (c.toNat / 16 + 1) Try.underlying9 rfl rfl rfl rfl (by first | rfl | omega) (by first | rfl | omega) (by omega) (by first | omega | (simp; omega)) RW.jn) ?_
        refine DRq.cons rfl (RW.catS rfl rfl rfl (by rw [hA, List.length_append]; show ((_ + 1 + 1 : Nat) : Int) ≤ _; omega) RW.jn) ?_
        refine DRq.cons rfl (RW.move rfl rfl RW.jn) ?_
        refine DRq.cons rfl (RW.move rfl rfl RW.jn) ?_
        refine DRq.cons rfl (RW.remN rfl rfl rfl (by omega) (by omega) RW.jn) ?_
        refine DRq.cons rfl (RW.move rfl rfl RW.jn) ?_
        refine DRq.cons rfl (RW.remN rfl rfl rfl (by omega) (by omega) RW.jn) ?_
        refine DRq.cons rfl (RW.add rfl rfl rfl (wrap64 (by omega) (by omega)) RW.jn) ?_
        refine DRq.cons rfl (RW.sliceStrLH (c.toNat % 16) (c.toNat % 16 + 1) Try.underlying9 rfl rfl rfl rfl (by first | rfl | omega) (by first | rfl | omega) (by omega) (by first | omega | (simp; omega)) RW.jn) ?_
        refine DRq.cons rfl (RW.catS rfl rfl rfl (by rw [hA, hB, List.length_append, List.length_append]; show ((_ + 1 + 1 + 1 : Nat) : Int) ≤ _; omega) RW.jn) ?_
        refine DRq.cons rfl (RW.assign rfl rfl RW.jn) ?_
        refine DRq.nil (EX.bkN (EX.seq (CW.region ?_)))
        refine RW.move rfl rfl ?_
        refine RW.add rfl rfl rfl (wrap64 (by omega) (by omega)) ?_
        refine RW.assign rfl rfl ?_
        refine RW.nil ?_
        -- mq: loopend
        refine EX.lpN (i + 1) (by omega) (by omega) (Sub.cons (by rfl) (Sub.cons (by rfl) (Sub.cons ?_ (Sub.cons (by rfl) Sub.nil)))) (fun w' hw' => hw')
        rw [htk, layB, if_neg (by simp [h20]), hexU, hexU, List.getD, ha, List.getD, hb, hA, hB]
        simp [look]
    · skip
      refine CW.exit (EX.seqE (EX.lpE (EX.bkE (EX.seq (CW.seq (CW.region ?_))))))
      refine RW.move rfl rfl ?_
      refine RW.assign rfl rfl ?_
      refine RW.nil (EX.seq (CW.ret ?_))
      refine EX.fin1 Try.results14 rfl (fun wz hw => ?_)
      -- mq: done
      have his : s.take i = s := List.take_of_length_le (by omega)
      rw [his]
      exact ⟨rfl, hw.ext⟩
end Go.Proofs.Ytkabehgjgicckaa.Mq
