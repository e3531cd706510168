/- osc: the reference's Escape, Code, Field -/
import Derived.Test.YtemcblinkicblaaDoorO5
namespace Go.Proofs.YtemcblinkicblaaDoor.Mq
open Go Go.RowKit Go.Proofs

theorem hexS_cut : ∀ k, k < 16 → (hexS.take (k + 1)).drop k = [hexDig k] := by decide
theorem Esc17_c (w : World) (s : List UInt8) (hs : s.length ≤ 1000000) :
    Calls Tryd.prog 15 [.string (bs s)].toArray w (fun e w' => e = .returned (.string (bs (escF s))) ∧ Ext [] w w') := by
  refine calls (n := 55) Tryd.func15 rfl Tryd.ntmps15 rfl ?_
  refine CW.sub (H' := SH w [] []) ?_ (Sub.refl _) (fun x hx => SH.start' _ _ hx)
  refine CW.seq (CW.region ?_)
  refine RW.assign rfl rfl ?_
  refine RW.nil (EX.seq (CW.seq (CW.region ?_)))
  refine RW.assign rfl rfl ?_
  refine RW.nil (EX.seq (CW.seq (CW.region ?_)))
  refine RW.assign rfl rfl ?_
  refine RW.nil (EX.seq (CW.seq (CW.seq (CW.region ?_))))
  refine RW.assign rfl rfl ?_
  refine RW.nil (EX.seq (CW.block ?_))
  -- mq: loop
  refine CW.loop (ι := Nat) (fun i => [(0, .string (bs s)), (3, .string (bs (escF (s.take i)))), (4, .string (bs hexS)), (5, .int .i64 (i : Int))]) (fun _ => SH w [] []) (fun i => i ≤ s.length) (fun i => s.length - i) ?_ ?_
  · exact fun w' hw' => ⟨0, Nat.zero_le _, (by repeat (first | exact Sub.nil | refine Sub.cons (by rfl) ?_)), hw'⟩
  · intro i hi
    have hel := escF_len (s.take i)
    rw [List.length_take] at hel
    refine CW.seq (CW.seq (CW.region ?_))
    refine RW.move rfl rfl ?_
    refine RW.move rfl rfl ?_
    refine RW.lenS Tryd.underlying9 rfl rfl ?_
    refine RW.lss rfl rfl rfl ?_
    refine RW.nil (EX.seq ?_)
    -- mq: cond
    first | refine CW.condD rfl (fun hlt => ?_) (fun hlt => ?_) | refine CW.cond rfl (fun hlt => ?_) (fun hlt => ?_)
    · skip
      obtain ⟨c, hc⟩ : ∃ c, s[i]? = some c := ⟨s[i]'(by omega), List.getElem?_eq_getElem _⟩
      have hc8 := UInt8.toNat_lt c
      have hsn : escF (s.take (i + 1)) = escF (s.take i) ++ escB c := by rw [List.take_add_one, hc, Option.toList_some, escF_snoc]
      have hsl : (s.take (i + 1)).drop i = [c] := by
        rw [List.drop_take, show i + 1 - i = 1 by omega, List.drop_eq_getElem_cons (by omega), (List.getElem?_eq_some_iff.1 hc).2]
        rfl
      have hsll : ((s.take (i + 1)).drop i).length = 1 := by rw [hsl]; rfl
      have hxl : hexS.length = 16 := rfl
      have hx1 : ((hexS.take (c.toNat / 16 + 1)).drop (c.toNat / 16)).length = 1 := by rw [hexS_cut _ (by omega)]; rfl
      have hx2 : ((hexS.take (c.toNat % 16 + 1)).drop (c.toNat % 16)).length = 1 := by rw [hexS_cut _ (by omega)]; rfl
      generalize escF (s.take i) = O at *
      refine CW.skip (EX.seq (CW.seq (CW.block (CW.seq (CW.region ?_)))))
      refine RW.move rfl rfl ?_
      refine RW.move rfl rfl ?_
      refine RW.ixStr (q := i) Tryd.underlying9 rfl rfl rfl (by omega) hc ?_
      refine RW.convI rfl rfl Tryd.underlying5 Tryd.underlying3 (wrap64 (by omega) (by omega)) ?_
      refine RW.assign rfl rfl ?_
      refine RW.nil (EX.seq (CW.block (CW.seq (CW.region ?_))))
      refine RW.move rfl rfl ?_
      refine RW.eqlI rfl rfl rfl ?_
      refine RW.assign rfl rfl ?_
      refine RW.nil (EX.seq ?_)
      -- mq: cond
      first | refine CW.condD rfl (fun h92 => ?_) (fun h92 => ?_) | refine CW.cond rfl (fun h92 => ?_) (fun h92 => ?_)
      · skip
        obtain rfl : c = 92 := (u8_lit (k := 92) (by decide)).1 h92
        refine CW.region ?_
        refine RW.move rfl rfl ?_
        refine RW.catS rfl rfl rfl (by first | omega | (simp only [List.length_append, List.length_cons, List.length_nil]; omega)) ?_
        refine RW.assign rfl rfl ?_
        refine RW.nil (EX.bkN (EX.bkN (EX.seq (CW.region ?_))))
        refine RW.move rfl rfl ?_
        refine RW.add rfl rfl rfl (wrap64 (by omega) (by omega)) ?_
        refine RW.assign rfl rfl ?_
        refine RW.nil ?_
        -- mq: loopend
        exact EX.lpN (i + 1) (by omega) (by omega) (by rw [hsn]; exact (by repeat (first | exact Sub.nil | refine Sub.cons (by rfl) ?_))) (fun w' hw' => hw')
      · skip
        have hn92 : c ≠ 92 := fun e => h92 (by rw [e]; rfl)
        have hesc : c.toNat ≤ 32 ∨ c = 59 → escF (s.take (i + 1)) = O ++ [92, 120] ++ (hexS.take (c.toNat / 16 + 1)).drop (c.toNat / 16) ++ (hexS.take (c.toNat % 16 + 1)).drop (c.toNat % 16) := fun h => by
          rw [hsn, hexS_cut _ (by omega), hexS_cut _ (by omega)]
          unfold escB
          rw [if_neg hn92, if_pos h]
          simp
        refine CW.seq (CW.region ?_)
        refine RW.move rfl rfl ?_
        refine RW.lss rfl rfl rfl ?_
        refine RW.move rfl rfl ?_
        -- mq: guard slot 32
        refine RW.casesB 32 rfl (fun h32 => ?_) (fun h32 => ?_)
        · skip
          have h32p := of_decide_eq_true h32
          have hb := hesc (.inl (by omega))
          refine RW.guardF rfl rfl rfl h32 ?_
          refine RW.guardF rfl rfl rfl h32 ?_
          refine RW.pickB rfl rfl h32 rfl ?_
          refine RW.assign rfl rfl ?_
          refine RW.nil (EX.seq ?_)
          -- mq: cond
          refine CW.condT rfl (rfl) ?_
          -- mq: region
          refine CW.drawU [0, 1, 2, 3, 4, 5, 6, 7, 8, 9, 10, 11, 12, 13, 14, 15, 16, 17, 18] 0 [[]] (fun _ => True) mixed (by kernel_rfl) (fun _ hw => hw.drew) (fun _ h => (by first | trivial | exact h | exact h.ch | exact (h.rem Rem.head).ch | exact ((h.rem Rem.head).rem Rem.head).ch | exact (((h.rem Rem.head).rem Rem.head).rem Rem.head).ch)) ?_
          refine QuP.cons rfl (fun wq hq => (RW.move rfl rfl RW.jn)) ?_
          refine QuP.cons rfl (fun wq hq => (RW.catS rfl rfl rfl (by first | omega | (simp only [List.length_append, List.length_cons, List.length_nil]; omega)) RW.jn)) ?_
          refine QuP.cons rfl (fun wq hq => (RW.move rfl rfl RW.jn)) ?_
          refine QuP.cons rfl (fun wq hq => (RW.move rfl rfl RW.jn)) ?_
          refine QuP.cons rfl (fun wq hq => (RW.quoN rfl rfl rfl (by omega) (by omega) (by omega) RW.jn)) ?_
          refine QuP.cons rfl (fun wq hq => (RW.move rfl rfl RW.jn)) ?_
          refine QuP.cons rfl (fun wq hq => (RW.quoN rfl rfl rfl (by omega) (by omega) (by omega) RW.jn)) ?_
          refine QuP.cons rfl (fun wq hq => (RW.add rfl rfl rfl (wrap64 (by omega) (by omega)) RW.jn)) ?_
          refine QuP.cons rfl (fun wq hq => (RW.sliceStrLH (c.toNat / 16) (c.toNat / 16 + 1) Tryd.underlying9 rfl rfl rfl rfl (by first | rfl | omega) (by first | rfl | omega) (by omega) (by first | omega | (simp; done) | (simp; omega)) RW.jn)) ?_
          refine QuP.cons rfl (fun wq hq => (RW.catS rfl rfl rfl (by first | omega | (simp only [List.length_append, List.length_cons, List.length_nil]; omega)) RW.jn)) ?_
          refine QuP.cons rfl (fun wq hq => (RW.move rfl rfl RW.jn)) ?_
          refine QuP.cons rfl (fun wq hq => (RW.move rfl rfl RW.jn)) ?_
          refine QuP.cons rfl (fun wq hq => (RW.remN rfl rfl rfl (by omega) (by omega) RW.jn)) ?_
          refine QuP.cons rfl (fun wq hq => (RW.move rfl rfl RW.jn)) ?_
          refine QuP.cons rfl (fun wq hq => (RW.remN rfl rfl rfl (by omega) (by omega) RW.jn)) ?_
          refine QuP.cons rfl (fun wq hq => (RW.add rfl rfl rfl (wrap64 (by omega) (by omega)) RW.jn)) ?_
          refine QuP.cons rfl (fun wq hq => (RW.sliceStrLH (c.toNat % 16) (c.toNat % 16 + 1) Tryd.underlying9 rfl rfl rfl rfl (by first | rfl | omega) (by first | rfl | omega) (by omega) (by first | omega | (simp; done) | (simp; omega)) RW.jn)) ?_
          refine QuP.cons rfl (fun wq hq => (RW.catS rfl rfl rfl (by first | omega | (simp only [List.length_append, List.length_cons, List.length_nil]; omega)) RW.jn)) ?_
          refine QuP.cons rfl (fun wq hq => (RW.assign rfl rfl RW.jn)) ?_
          refine QuP.nil ?_
          refine UW.nil (EX.bkN (EX.bkN (EX.seq (CW.region ?_))))
          refine RW.move rfl rfl ?_
          refine RW.add rfl rfl rfl (wrap64 (by omega) (by omega)) ?_
          refine RW.assign rfl rfl ?_
          refine RW.nil ?_
          -- mq: loopend
          exact EX.lpN (i + 1) (by omega) (by omega) (by rw [hb]; exact (by repeat (first | exact Sub.nil | refine Sub.cons (by rfl) ?_))) (fun w' hw' => hw')
        · skip
          have h32p := of_decide_eq_false h32
          refine RW.guardT rfl rfl h32 ?_
          refine RW.move rfl rfl ?_
          refine RW.guardT rfl rfl h32 ?_
          refine RW.eqlI rfl rfl rfl ?_
          refine RW.pickC rfl rfl h32 rfl ?_
          refine RW.assign rfl rfl ?_
          refine RW.nil (EX.seq ?_)
          -- mq: cond
          first | refine CW.condD rfl (fun h59 => ?_) (fun h59 => ?_) | refine CW.cond rfl (fun h59 => ?_) (fun h59 => ?_)
          · skip
            have hb := hesc (.inr ((u8_lit (k := 59) (by decide)).1 h59))
            -- mq: region
            refine CW.drawU [0, 1, 2, 3, 4, 5, 6, 7, 8, 9, 10, 11, 12, 13, 14, 15, 16, 17, 18] 0 [[]] (fun _ => True) mixed (by kernel_rfl) (fun _ hw => hw.drew) (fun _ h => (by first | trivial | exact h | exact h.ch | exact (h.rem Rem.head).ch | exact ((h.rem Rem.head).rem Rem.head).ch | exact (((h.rem Rem.head).rem Rem.head).rem Rem.head).ch)) ?_
            refine QuP.cons rfl (fun wq hq => (RW.move rfl rfl RW.jn)) ?_
            refine QuP.cons rfl (fun wq hq => (RW.catS rfl rfl rfl (by first | omega | (simp only [List.length_append, List.length_cons, List.length_nil]; omega)) RW.jn)) ?_
            refine QuP.cons rfl (fun wq hq => (RW.move rfl rfl RW.jn)) ?_
            refine QuP.cons rfl (fun wq hq => (RW.move rfl rfl RW.jn)) ?_
            refine QuP.cons rfl (fun wq hq => (RW.quoN rfl rfl rfl (by omega) (by omega) (by omega) RW.jn)) ?_
            refine QuP.cons rfl (fun wq hq => (RW.move rfl rfl RW.jn)) ?_
            refine QuP.cons rfl (fun wq hq => (RW.quoN rfl rfl rfl (by omega) (by omega) (by omega) RW.jn)) ?_
            refine QuP.cons rfl (fun wq hq => (RW.add rfl rfl rfl (wrap64 (by omega) (by omega)) RW.jn)) ?_
            refine QuP.cons rfl (fun wq hq => (RW.sliceStrLH (c.toNat / 16) (c.toNat / 16 + 1) Tryd.underlying9 rfl rfl rfl rfl (by first | rfl | omega) (by first | rfl | omega) (by omega) (by first | omega | (simp; done) | (simp; omega)) RW.jn)) ?_
            refine QuP.cons rfl (fun wq hq => (RW.catS rfl rfl rfl (by first | omega | (simp only [List.length_append, List.length_cons, List.length_nil]; omega)) RW.jn)) ?_
            refine QuP.cons rfl (fun wq hq => (RW.move rfl rfl RW.jn)) ?_
            refine QuP.cons rfl (fun wq hq => (RW.move rfl rfl RW.jn)) ?_
            refine QuP.cons rfl (fun wq hq => (RW.remN rfl rfl rfl (by omega) (by omega) RW.jn)) ?_
            refine QuP.cons rfl (fun wq hq => (RW.move rfl rfl RW.jn)) ?_
            refine QuP.cons rfl (fun wq hq => (RW.remN rfl rfl rfl (by omega) (by omega) RW.jn)) ?_
            refine QuP.cons rfl (fun wq hq => (RW.add rfl rfl rfl (wrap64 (by omega) (by omega)) RW.jn)) ?_
            refine QuP.cons rfl (fun wq hq => (RW.sliceStrLH (c.toNat % 16) (c.toNat % 16 + 1) Tryd.underlying9 rfl rfl rfl rfl (by first | rfl | omega) (by first | rfl | omega) (by omega) (by first | omega | (simp; done) | (simp; omega)) RW.jn)) ?_
            refine QuP.cons rfl (fun wq hq => (RW.catS rfl rfl rfl (by first | omega | (simp only [List.length_append, List.length_cons, List.length_nil]; omega)) RW.jn)) ?_
            refine QuP.cons rfl (fun wq hq => (RW.assign rfl rfl RW.jn)) ?_
            refine QuP.nil ?_
            refine UW.nil (EX.bkN (EX.bkN (EX.seq (CW.region ?_))))
            refine RW.move rfl rfl ?_
            refine RW.add rfl rfl rfl (wrap64 (by omega) (by omega)) ?_
            refine RW.assign rfl rfl ?_
            refine RW.nil ?_
            -- mq: loopend
            exact EX.lpN (i + 1) (by omega) (by omega) (by rw [hb]; exact (by repeat (first | exact Sub.nil | refine Sub.cons (by rfl) ?_))) (fun w' hw' => hw')
          · skip
            have hb : escF (s.take (i + 1)) = O ++ (s.take (i + 1)).drop i := by
              rw [hsn, hsl]
              unfold escB
              rw [if_neg hn92, if_neg]
              rintro (h | h)
              · omega
              · exact h59 (by rw [h]; rfl)
            refine CW.region ?_
            refine RW.move rfl rfl ?_
            refine RW.move rfl rfl ?_
            refine RW.move rfl rfl ?_
            refine RW.move rfl rfl ?_
            refine RW.add rfl rfl rfl (wrap64 (by omega) (by omega)) ?_
            refine RW.sliceStrLH i (i + 1) Tryd.underlying9 rfl rfl rfl rfl (by first | rfl | omega) (by first | rfl | omega) (by omega) (by first | omega | (simp; done) | (simp; omega)) ?_
            refine RW.catS rfl rfl rfl (by first | omega | (simp only [List.length_append, List.length_cons, List.length_nil]; omega)) ?_
            refine RW.assign rfl rfl ?_
            refine RW.nil (EX.bkN (EX.bkN (EX.seq (CW.region ?_))))
            refine RW.move rfl rfl ?_
            refine RW.add rfl rfl rfl (wrap64 (by omega) (by omega)) ?_
            refine RW.assign rfl rfl ?_
            refine RW.nil ?_
            -- mq: loopend
            exact EX.lpN (i + 1) (by omega) (by omega) (by rw [hb]; exact (by repeat (first | exact Sub.nil | refine Sub.cons (by rfl) ?_))) (fun w' hw' => hw')
    · skip
      obtain rfl : i = s.length := by omega
      refine CW.exit (EX.seqE (EX.lpE (EX.bkE (EX.seq (CW.seq (CW.region ?_))))))
      refine RW.move rfl rfl ?_
      refine RW.assign rfl rfl ?_
      refine RW.nil (EX.seq (CW.ret ?_))
      refine EX.fin1 Tryd.results15 rfl (fun wz hw => ?_)
      -- mq: done
      exact ⟨by rw [List.take_length], hw.ext⟩
theorem numD_pow : ∀ (l : List UInt8) (a : Nat), (∀ c ∈ l, digitB c = true) → l.foldl stepD a + 1 ≤ (a + 1) * 10 ^ l.length
  | [], a, _ => by simp
  | c :: l, a, hl => by
    have hc := of_decide_eq_true (hl c (by simp))
    have := numD_pow l (stepD a c) (fun x hx => hl x (by simp [hx]))
    rw [List.foldl_cons, List.length_cons, Nat.pow_succ]
    refine Nat.le_trans this ?_
    have h1 : stepD a c + 1 ≤ (a + 1) * 10 := by unfold stepD; omega
    rw [Nat.mul_comm (10 ^ l.length) 10, ← Nat.mul_assoc]
    exact Nat.mul_le_mul_right _ h1
theorem numD_nine {l : List UInt8} (h : ∀ c ∈ l, digitB c = true) (h9 : l.length ≤ 9) : numD l ≤ 999999999 := by
  have e1 := numD_pow l 0 h
  rw [← numD_eq] at e1
  have e2 : 10 ^ l.length ≤ 10 ^ 9 := Nat.pow_le_pow_right (by decide) h9
  have e3 : 10 ^ 9 = 1000000000 := by decide
  omega
theorem Code17_c (w : World) (s : List UInt8) (hs : s.length ≤ 1000000) :
    Calls Tryd.prog 13 [.string (bs s)].toArray w (fun e w' => e = .returned (codV (codeF s)) ∧ Ext [] w w') := by
  have hdl := codeD_len s
  refine calls (n := 54) Tryd.func13 rfl Tryd.ntmps13 rfl ?_
  refine CW.sub (H' := SH w [] []) ?_ (Sub.refl _) (fun x hx => SH.start' _ _ hx)
  refine CW.seq (CW.region ?_)
  refine RW.assign rfl rfl ?_
  refine RW.assign rfl rfl ?_
  refine RW.nil (EX.seq (CW.seq ?_))
  -- mq: region
  refine CW.joinI (fun b : Bool => [(0, .string (bs s)), (4, .bool b)]) (fun _ => SH w [] []) (fun b => (b = true ↔ s.head? = some 45)) ?_ ?_
  · skip
    refine CW.region ?_
    refine RW.move rfl rfl ?_
    refine RW.lenS Tryd.underlying9 rfl rfl ?_
    refine RW.gtr rfl rfl rfl ?_
    refine RW.move rfl rfl ?_
    -- mq: guard slot 10
    refine RW.casesB 10 rfl (fun g1 => ?_) (fun g1 => ?_)
    · skip
      have g1p := of_decide_eq_true g1
      obtain ⟨c, r, rfl⟩ : ∃ c r, s = c :: r := by
        cases s with
        | nil => simp at g1p
        | cons c r => exact ⟨c, r, rfl⟩
      have hc8 := UInt8.toNat_lt c
      refine RW.guardT rfl rfl g1 ?_
      refine RW.move rfl rfl ?_
      refine RW.guardT rfl rfl g1 ?_
      refine RW.ixStr (q := 0) Tryd.underlying9 rfl rfl rfl (by rfl) (rfl : (c :: r)[0]? = some c) ?_
      refine RW.guardT rfl rfl g1 ?_
      refine RW.eqlI rfl rfl rfl ?_
      refine RW.pickB rfl rfl g1 rfl ?_
      refine RW.assign rfl rfl ?_
      refine RW.nil ?_
      -- mq: joinend
      refine EX.jnI (decide ((c.toNat : Int) = 45)) ?_ (by repeat (first | exact Sub.nil | refine Sub.cons (by rfl) ?_)) (fun _ h => h)
      rw [decide_eq_true_eq, show (45 : Int) = ((45 : Nat) : Int) from rfl, u8_lit (by decide)]
      exact ⟨fun h => by rw [h]; rfl, fun h => Option.some.inj h⟩
    · skip
      have g1p := of_decide_eq_false g1
      refine RW.guardF rfl rfl rfl g1 ?_
      refine RW.guardF rfl rfl rfl g1 ?_
      refine RW.guardF rfl rfl rfl g1 ?_
      refine RW.pickC rfl rfl g1 rfl ?_
      refine RW.assign rfl rfl ?_
      refine RW.nil ?_
      -- mq: joinend
      refine EX.jnI false ?_ (by repeat (first | exact Sub.nil | refine Sub.cons (by rfl) ?_)) (fun _ h => h)
      obtain rfl : s = [] := List.length_eq_zero_iff.1 (by omega)
      exact ⟨fun h => (by cases h), fun h => (by cases h)⟩
  · skip
    intro b hb
    refine EX.seq (CW.seq (CW.seq (CW.region ?_)))
    refine RW.move rfl rfl ?_
    refine RW.nil (EX.seq ?_)
    -- mq: cond
    refine CW.join ([(0, .string (bs (codeD s))), (4, .bool b)]) (SH w [] []) ?_ ?_
    · skip
      first | refine CW.condD rfl (fun h1 => ?_) (fun h1 => ?_) | refine CW.cond rfl (fun h1 => ?_) (fun h1 => ?_)
      · skip
        have e : codeD s = s.drop 1 := by unfold codeD; rw [if_pos (hb.1 h1)]
        have hne : 1 ≤ s.length := by
          cases s with
          | nil => exact absurd (hb.1 h1) (by simp)
          | cons c r => simp
        refine CW.region ?_
        refine RW.move rfl rfl ?_
        refine RW.sliceStrL 1 Tryd.underlying9 rfl rfl rfl (by first | rfl | omega) (by first | omega | (simp; done) | (simp; omega)) ?_
        refine RW.assign rfl rfl ?_
        refine RW.nil ?_
        -- mq: joinend
        exact EX.jn (by rw [e]; exact (by repeat (first | exact Sub.nil | refine Sub.cons (by rfl) ?_))) (fun _ h => h)
      · skip
        have e : codeD s = s := by unfold codeD; rw [if_neg (fun h => by rw [hb.2 h] at h1; cases h1)]
        refine CW.skip ?_
        -- mq: joinend
        exact EX.jn (by rw [e]; exact (by repeat (first | exact Sub.nil | refine Sub.cons (by rfl) ?_))) (fun _ h => h)
    · skip
      have hno := codeF_no (s := s)
      have hyes : codeOk s = true → codeF s = (if b = true then -(numD (codeD s) : Int) else (numD (codeD s) : Int), true) := fun h => by
        unfold codeF
        rw [if_pos h]
        by_cases hh : s.head? = some 45
        · rw [if_pos hh, if_pos (hb.2 hh)]
        · rw [if_neg hh, if_neg (fun e => hh (hb.1 e))]
      have hok : 1 ≤ (codeD s).length → (codeD s).length ≤ 9 → (codeD s).all digitB = true → codeOk s = true := fun a1 a2 a3 => by
        unfold codeOk
        rw [decide_eq_true a1, decide_eq_true a2, a3]; rfl
      generalize codeD s = d at *
      refine EX.seq (CW.seq (CW.seq (CW.region ?_)))
      refine RW.move rfl rfl ?_
      refine RW.lenS Tryd.underlying9 rfl rfl ?_
      refine RW.lss rfl rfl rfl ?_
      refine RW.move rfl rfl ?_
      -- mq: guard slot 21
      refine RW.casesB 21 rfl (fun g2 => ?_) (fun g2 => ?_)
      · skip
        have g2p := of_decide_eq_true g2
        refine RW.guardF rfl rfl rfl g2 ?_
        refine RW.guardF rfl rfl rfl g2 ?_
        refine RW.guardF rfl rfl rfl g2 ?_
        refine RW.pickB rfl rfl g2 rfl ?_
        refine RW.nil (EX.seq ?_)
        -- mq: cond
        refine CW.condT rfl (rfl) ?_
        refine CW.seq (CW.region ?_)
        refine RW.assign rfl rfl ?_
        refine RW.assign rfl rfl ?_
        refine RW.nil (EX.seq (CW.ret (EX.seqR ?_)))
        refine EX.fin2 Tryd.results13 rfl rfl (fun wz hw => ?_)
        -- mq: done
        exact ⟨by rw [hno (by omega)]; rfl, hw.ext⟩
      · skip
        have g2p := of_decide_eq_false g2
        refine RW.guardT rfl rfl g2 ?_
        refine RW.move rfl rfl ?_
        refine RW.guardT rfl rfl g2 ?_
        refine RW.lenS Tryd.underlying9 rfl rfl ?_
        refine RW.guardT rfl rfl g2 ?_
        refine RW.gtr rfl rfl rfl ?_
        refine RW.pickC rfl rfl g2 rfl ?_
        refine RW.nil (EX.seq ?_)
        -- mq: cond
        first | refine CW.condD rfl (fun g3 => ?_) (fun g3 => ?_) | refine CW.cond rfl (fun g3 => ?_) (fun g3 => ?_)
        · skip
          refine CW.seq (CW.region ?_)
          refine RW.assign rfl rfl ?_
          refine RW.assign rfl rfl ?_
          refine RW.nil (EX.seq (CW.ret (EX.seqR ?_)))
          refine EX.fin2 Tryd.results13 rfl rfl (fun wz hw => ?_)
          -- mq: done
          exact ⟨by rw [hno (by omega)]; rfl, hw.ext⟩
        · skip
          refine CW.skip (EX.seq (CW.seq (CW.region ?_)))
          refine RW.assign rfl rfl ?_
          refine RW.nil (EX.seq (CW.seq (CW.seq (CW.region ?_))))
          refine RW.assign rfl rfl ?_
          refine RW.nil (EX.seq (CW.block ?_))
          -- mq: loop
          refine CW.loop (ι := Nat) (fun i => [(0, .string (bs d)), (4, .bool b), (5, .int .i64 (numD (d.take i) : Int)), (6, .int .i64 (i : Int))]) (fun _ => SH w [] []) (fun i => i ≤ d.length ∧ ∀ c ∈ d.take i, digitB c = true) (fun i => d.length - i) ?_ ?_
          · exact fun w' hw' => ⟨0, ⟨Nat.zero_le _, by simp⟩, (by repeat (first | exact Sub.nil | refine Sub.cons (by rfl) ?_)), hw'⟩
          · rintro i ⟨hi, hall⟩
            have hn9 := numD_nine hall (by rw [List.length_take]; omega)
            refine CW.seq (CW.seq (CW.region ?_))
            refine RW.move rfl rfl ?_
            refine RW.move rfl rfl ?_
            refine RW.lenS Tryd.underlying9 rfl rfl ?_
            refine RW.lss rfl rfl rfl ?_
            refine RW.nil (EX.seq ?_)
            -- mq: cond
            first | refine CW.condD rfl (fun hlt => ?_) (fun hlt => ?_) | refine CW.cond rfl (fun hlt => ?_) (fun hlt => ?_)
            · skip
              obtain ⟨c, hc⟩ : ∃ c, d[i]? = some c := ⟨d[i]'(by omega), List.getElem?_eq_getElem _⟩
              have hc8 := UInt8.toNat_lt c
              have hcm := List.mem_of_getElem? hc
              have htk : d.take (i + 1) = d.take i ++ [c] := by rw [List.take_add_one, hc]; rfl
              have hns : numD (d.take (i + 1)) = 10 * numD (d.take i) + (c.toNat - 48) := by rw [htk, numD_snoc]
              have hbad : ¬ digitB c = true → codeF s = (0, false) := fun h => hno (fun hh => h (List.all_eq_true.1 hh.2.2 c hcm))
              refine CW.skip (EX.seq (CW.seq (CW.block (CW.seq (CW.seq (CW.region ?_))))))
              refine RW.move rfl rfl ?_
              refine RW.move rfl rfl ?_
              refine RW.ixStr (q := i) Tryd.underlying9 rfl rfl rfl (by omega) hc ?_
              refine RW.lss rfl rfl rfl ?_
              refine RW.move rfl rfl ?_
              -- mq: guard slot 36
              refine RW.casesB 36 rfl (fun g4 => ?_) (fun g4 => ?_)
              · skip
                have g4p := of_decide_eq_true g4
                refine RW.guardF rfl rfl rfl g4 ?_
                refine RW.guardF rfl rfl rfl g4 ?_
                refine RW.guardF rfl rfl rfl g4 ?_
                refine RW.guardF rfl rfl rfl g4 ?_
                refine RW.pickB rfl rfl g4 rfl ?_
                refine RW.nil (EX.seq ?_)
                -- mq: cond
                refine CW.condT rfl (rfl) ?_
                refine CW.seq (CW.region ?_)
                refine RW.assign rfl rfl ?_
                refine RW.assign rfl rfl ?_
                refine RW.nil (EX.seq (CW.ret (EX.seqR (EX.bkR (EX.seqR (EX.lpR (EX.bkR (EX.seqR ?_))))))))
                refine EX.fin2 Tryd.results13 rfl rfl (fun wz hw => ?_)
                -- mq: done
                exact ⟨by rw [hbad (fun h => by have := of_decide_eq_true h; omega)]; rfl, hw.ext⟩
              · skip
                have g4p := of_decide_eq_false g4
                refine RW.guardT rfl rfl g4 ?_
                refine RW.move rfl rfl ?_
                refine RW.guardT rfl rfl g4 ?_
                refine RW.move rfl rfl ?_
                refine RW.guardT rfl rfl g4 ?_
                refine RW.ixStr (q := i) Tryd.underlying9 rfl rfl rfl (by omega) hc ?_
                refine RW.guardT rfl rfl g4 ?_
                refine RW.gtr rfl rfl rfl ?_
                refine RW.pickC rfl rfl g4 rfl ?_
                refine RW.nil (EX.seq ?_)
                -- mq: cond
                first | refine CW.condD rfl (fun g5 => ?_) (fun g5 => ?_) | refine CW.cond rfl (fun g5 => ?_) (fun g5 => ?_)
                · skip
                  refine CW.seq (CW.region ?_)
                  refine RW.assign rfl rfl ?_
                  refine RW.assign rfl rfl ?_
                  refine RW.nil (EX.seq (CW.ret (EX.seqR (EX.bkR (EX.seqR (EX.lpR (EX.bkR (EX.seqR ?_))))))))
                  refine EX.fin2 Tryd.results13 rfl rfl (fun wz hw => ?_)
                  -- mq: done
                  exact ⟨by rw [hbad (fun h => by have := of_decide_eq_true h; omega)]; rfl, hw.ext⟩
                · skip
                  have hdg : digitB c = true := decide_eq_true (by omega)
                  have hall' : ∀ x ∈ d.take (i + 1), digitB x = true := fun x hx => by
                    rw [htk] at hx
                    rcases List.mem_append.1 hx with h | h
                    · exact hall x h
                    · rw [List.mem_singleton.1 h]; exact hdg
                  refine CW.skip (EX.seq (CW.region ?_))
                  refine RW.move rfl rfl ?_
                  refine RW.mul (r := 10 * (numD (d.take i) : Int)) rfl rfl rfl (wrap64 (by omega) (by omega)) ?_
                  refine RW.move rfl rfl ?_
                  refine RW.move rfl rfl ?_
                  refine RW.ixStr (q := i) Tryd.underlying9 rfl rfl rfl (by omega) hc ?_
                  refine RW.convI (r := (c.toNat : Int)) rfl rfl Tryd.underlying5 Tryd.underlying3 (wrap64 (by omega) (by omega)) ?_
                  refine RW.add (r := 10 * (numD (d.take i) : Int) + (c.toNat : Int)) rfl rfl rfl (wrap64 (by omega) (by omega)) ?_
                  refine RW.sub_ (r := (numD (d.take (i + 1)) : Int)) rfl rfl rfl (by rw [hns, wrap64 (by omega) (by omega)]; omega) ?_
                  refine RW.assign rfl rfl ?_
                  refine RW.nil (EX.bkN (EX.seq (CW.region ?_)))
                  refine RW.move rfl rfl ?_
                  refine RW.add rfl rfl rfl (wrap64 (by omega) (by omega)) ?_
                  refine RW.assign rfl rfl ?_
                  refine RW.nil ?_
                  -- mq: loopend
                  exact EX.lpN (i + 1) ⟨by omega, hall'⟩ (by omega) (by repeat (first | exact Sub.nil | refine Sub.cons (by rfl) ?_)) (fun w' hw' => hw')
            · skip
              obtain rfl : i = d.length := by omega
              rw [List.take_length] at hall hn9 ⊢
              have hy := hyes (hok (by omega) (by omega) (List.all_eq_true.2 hall))
              refine CW.exit (EX.seqE (EX.lpE (EX.bkE (EX.seq (CW.seq (CW.seq (CW.region ?_)))))))
              refine RW.move rfl rfl ?_
              refine RW.nil (EX.seq ?_)
              -- mq: cond
              first | refine CW.condD rfl (fun g6 => ?_) (fun g6 => ?_) | refine CW.cond rfl (fun g6 => ?_) (fun g6 => ?_)
              · skip
                refine CW.region ?_
                refine RW.move rfl rfl ?_
                refine RW.neg_ (r := -(numD d : Int)) rfl rfl (by rw [Int.zero_sub]; exact wrap64 (by omega) (by omega)) ?_
                refine RW.assign rfl rfl ?_
                refine RW.nil (EX.seq (CW.seq (CW.region ?_)))
                refine RW.move rfl rfl ?_
                refine RW.assign rfl rfl ?_
                refine RW.assign rfl rfl ?_
                refine RW.nil (EX.seq (CW.ret ?_))
                refine EX.fin2 Tryd.results13 rfl rfl (fun wz hw => ?_)
                -- mq: done
                exact ⟨by rw [hy, if_pos g6]; rfl, hw.ext⟩
              · skip
                refine CW.skip (EX.seq (CW.seq (CW.region ?_)))
                refine RW.move rfl rfl ?_
                refine RW.assign rfl rfl ?_
                refine RW.assign rfl rfl ?_
                refine RW.nil (EX.seq (CW.ret ?_))
                refine EX.fin2 Tryd.results13 rfl rfl (fun wz hw => ?_)
                -- mq: done
                exact ⟨by rw [hy, if_neg (by rw [g6]; decide)]; rfl, hw.ext⟩
end Go.Proofs.YtemcblinkicblaaDoor.Mq
