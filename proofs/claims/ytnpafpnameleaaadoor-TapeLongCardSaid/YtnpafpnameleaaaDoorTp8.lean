/- tape: the reference's word, number -/
import Derived.Test.YtnpafpnameleaaaDoorTp7
namespace Go.Proofs.YtnpafpnameleaaaDoor.Mq
open Go Go.RowKit Go.Proofs

def cutF : List UInt8 → List UInt8 × List UInt8 × Bool
  | [] => ([], [], false)
  | c :: r => if c = 32 then ([], r, true) else (c :: (cutF r).1, (cutF r).2.1, (cutF r).2.2)
theorem full_cutF : ∀ s, fullP 32 s = if (cutF s).2.2 = true then (cutF s).1 :: fullP 32 (cutF s).2.1 else [(cutF s).1]
  | [] => rfl
  | c :: r => by
    have ih := full_cutF r
    by_cases h : c = 32
    · subst h; rfl
    · have e1 : cutF (c :: r) = (c :: (cutF r).1, (cutF r).2.1, (cutF r).2.2) := by rw [cutF, if_neg h]
      rw [e1, fullP, if_neg h, ih]
      dsimp only
      cases (cutF r).2.2 <;> rfl
theorem cutF_len : ∀ s, (cutF s).1.length ≤ s.length ∧ (cutF s).2.1.length ≤ s.length
  | [] => ⟨Nat.le_refl _, Nat.le_refl _⟩
  | c :: r => by
    have ih := cutF_len r
    unfold cutF
    split
    · exact ⟨Nat.zero_le _, by simp⟩
    · exact ⟨by simp; omega, by simp; omega⟩
theorem cutF_step {s : List UInt8} {i : Nat} {c : UInt8} (h : s[i]? = some c) (hc : c ≠ 32) (hsp : cutF s = (s.take i ++ (cutF (s.drop i)).1, (cutF (s.drop i)).2)) : cutF s = (s.take (i + 1) ++ (cutF (s.drop (i + 1))).1, (cutF (s.drop (i + 1))).2) := by
  have hlt := (List.getElem?_eq_some_iff.1 h).1
  have hd : s.drop i = c :: s.drop (i + 1) := by rw [List.drop_eq_getElem_cons hlt, (List.getElem?_eq_some_iff.1 h).2]
  rw [hsp, hd, List.take_add_one, h, cutF, if_neg hc]
  simp
theorem cutF_hit {s : List UInt8} {i : Nat} (h : s[i]? = some 32) (hsp : cutF s = (s.take i ++ (cutF (s.drop i)).1, (cutF (s.drop i)).2)) : cutF s = (s.take i, s.drop (i + 1), true) := by
  have hlt := (List.getElem?_eq_some_iff.1 h).1
  have hd : s.drop i = 32 :: s.drop (i + 1) := by rw [List.drop_eq_getElem_cons hlt, (List.getElem?_eq_some_iff.1 h).2]
  rw [hsp, hd, cutF, if_pos rfl]
  simp
def cutW (s : List UInt8) : Value := .tuple #[.string (bs (cutF s).1), .string (bs (cutF s).2.1), .bool (cutF s).2.2]
theorem word_c (w : World) (s : List UInt8) (hs : s.length ≤ 1000000) :
    Calls Tryd.prog 28 [.string (bs s)].toArray w (fun e w' => e = .returned (cutW s) ∧ Ext [] w w') := by
  refine calls (n := 24) Tryd.func28 rfl Tryd.ntmps28 rfl ?_
  refine CW.sub (H' := SH w [] []) ?_ (Sub.refl _) (fun x hx => SH.start' _ _ hx)
  refine CW.seq (CW.region ?_)
  refine RW.assign rfl rfl ?_
  refine RW.assign rfl rfl ?_
  refine RW.assign rfl rfl ?_
  refine RW.nil (EX.seq (CW.seq (CW.seq (CW.region ?_))))
  refine RW.assign rfl rfl ?_
  refine RW.nil (EX.seq (CW.block ?_))
  -- mq: loop
  refine CW.loop (ι := Nat) (fun i => [(0, .string (bs s)), (5, .int .i64 (i : Int))]) (fun _ => SH w [] []) (fun i => i ≤ s.length ∧ cutF s = (s.take i ++ (cutF (s.drop i)).1, (cutF (s.drop i)).2)) (fun i => s.length - i) ?_ ?_
  · exact fun w' hw' => ⟨0, ⟨Nat.zero_le _, by simp⟩, (by repeat (first | exact Sub.nil | refine Sub.cons (by rfl) ?_)), hw'⟩
  · rintro i ⟨hi, hsp⟩
    refine CW.seq (CW.seq (CW.region ?_))
    refine RW.move rfl rfl ?_
    refine RW.move rfl rfl ?_
    refine RW.lenS Tryd.underlying9 rfl rfl ?_
    refine RW.lss rfl rfl rfl ?_
    refine RW.nil (EX.seq ?_)
    -- mq: cond
    first | refine CW.condD rfl (fun hlt => ?_) (fun hlt => ?_) | refine CW.cond rfl (fun hlt => ?_) (fun hlt => ?_)
    · skip
      obtain ⟨c, hc⟩ : ∃ c, s[i]? = some c := ⟨s[i]'(by omega), List.getElem?_eq_getElem _⟩
      have hc8 := UInt8.toNat_lt c
      refine CW.skip (EX.seq (CW.seq (CW.block (CW.seq (CW.region ?_)))))
      refine RW.move rfl rfl ?_
      refine RW.move rfl rfl ?_
      refine RW.ixStr (q := i) Tryd.underlying9 rfl rfl rfl (by omega) hc ?_
      refine RW.eqlI rfl rfl rfl ?_
      refine RW.nil (EX.seq ?_)
      -- mq: cond
      first | refine CW.condD rfl (fun h2 => ?_) (fun h2 => ?_) | refine CW.cond rfl (fun h2 => ?_) (fun h2 => ?_)
      · skip
        obtain rfl : c = 32 := UInt8.toNat_inj.1 (by have : (32 : UInt8).toNat = 32 := rfl; omega)
        have hr := cutF_hit hc hsp
        refine CW.seq ?_
        refine CW.drawq mixed (by kernel_rfl) (fun _ hw => hw.drew) ?_
        refine DRq.cons rfl (RW.move rfl rfl RW.jn) ?_
        refine DRq.cons rfl (RW.move rfl rfl RW.jn) ?_
        refine DRq.cons rfl (RW.sliceStrH i Tryd.underlying9 rfl rfl rfl (by first | rfl | omega) (by first | omega | (simp; done) | (simp; omega)) RW.jn) ?_
        refine DRq.cons rfl (RW.move rfl rfl RW.jn) ?_
        refine DRq.cons rfl (RW.move rfl rfl RW.jn) ?_
        refine DRq.cons rfl (RW.add rfl rfl rfl (wrap64 (by omega) (by omega)) RW.jn) ?_
        refine DRq.cons rfl (RW.sliceStrL (i + 1) Tryd.underlying9 rfl rfl rfl (by first | rfl | omega) (by first | omega | (simp; done) | (simp; omega)) RW.jn) ?_
        refine DRq.cons rfl (RW.assign rfl rfl RW.jn) ?_
        refine DRq.cons rfl (RW.assign rfl rfl RW.jn) ?_
        refine DRq.cons rfl (RW.assign rfl rfl RW.jn) ?_
        refine DRq.nil (EX.seq (CW.ret (EX.bkR (EX.seqR (EX.lpR (EX.bkR (EX.seqR ?_)))))))
        refine EX.fin3 Tryd.results28 rfl rfl rfl (fun wz hw => ?_)
        -- mq: done
        refine ⟨?_, hw.ext⟩
        rw [cutW, hr]
      · skip
        refine CW.skip (EX.bkN (EX.seq (CW.region ?_)))
        refine RW.move rfl rfl ?_
        refine RW.add rfl rfl rfl (wrap64 (by omega) (by omega)) ?_
        refine RW.assign rfl rfl ?_
        refine RW.nil ?_
        -- mq: loopend
        exact EX.lpN (i + 1) ⟨by omega, cutF_step hc (fun e => h2 (by rw [e]; rfl)) hsp⟩ (by omega) (by repeat (first | exact Sub.nil | refine Sub.cons (by rfl) ?_)) (fun w' hw' => hw')
    · skip
      obtain rfl : i = s.length := by omega
      rw [List.take_length, List.drop_length] at hsp
      refine CW.exit (EX.seqE (EX.lpE (EX.bkE (EX.seq (CW.seq (CW.region ?_))))))
      refine RW.move rfl rfl ?_
      refine RW.assign rfl rfl ?_
      refine RW.assign rfl rfl ?_
      refine RW.assign rfl rfl ?_
      refine RW.nil (EX.seq (CW.ret ?_))
      refine EX.fin3 Tryd.results28 rfl rfl rfl (fun wz hw => ?_)
      -- mq: done
      refine ⟨?_, hw.ext⟩
      rw [cutW, hsp]
      simp [cutF]
/- number -/
theorem numD_lt : ∀ (k : Nat) (l : List UInt8), l.length ≤ k → (∀ c ∈ l, digitB c = true) → numD l < 10 ^ k
  | k, l, hl, hd => by
    rcases List.eq_nil_or_concat l with rfl | ⟨r, c, rfl⟩
    · exact Nat.pos_of_ne_zero (by simp)
    · rw [List.concat_eq_append] at *
      cases k with
      | zero => simp at hl
      | succ k =>
        have ih := numD_lt k r (by rw [List.length_append] at hl; simp at hl; omega) (fun x hx => hd x (by simp [hx]))
        have hc := of_decide_eq_true (hd c (by simp))
        rw [numD_snoc, Nat.pow_succ]
        omega
def negB (s : List UInt8) : Bool := decide (s.head? = some 45)
def tailN (s : List UInt8) : List UInt8 := if s.head? = some 45 then s.tail else s
theorem numOk_eq {s : List UInt8} : numOk s ↔ 1 ≤ (tailN s).length ∧ (tailN s).length ≤ 19 ∧ ¬ ((tailN s).head? = some 48 ∧ (1 < (tailN s).length ∨ negB s = true)) ∧ (∀ c ∈ tailN s, digitB c = true) ∧ (negB s = true → numD (tailN s) ≤ 9223372036854775808) ∧ (¬ negB s = true → numD (tailN s) ≤ 9223372036854775807) := by
  unfold numOk tailN negB
  simp only [decide_eq_true_eq]
theorem sval_neg {s : List UInt8} (h : negB s = true) : svalF s = -(numD (tailN s) : Int) := by
  have h2 : s.head? = some 45 := of_decide_eq_true h
  rw [svalF, tailN, if_pos h2, if_pos h2]
theorem sval_pos {s : List UInt8} (h : ¬ negB s = true) : svalF s = (numD (tailN s) : Int) := by
  have h2 : ¬ s.head? = some 45 := fun e => h (decide_eq_true e)
  rw [svalF, tailN, if_neg h2, if_neg h2]
def numW (s : List UInt8) : Value := .tuple #[.int .i64 ((numF s).getD 0), .bool (numF s).isSome]
theorem numW_no {s : List UInt8} (h : ¬ numOk s) : numW s = .tuple #[.int .i64 0, .bool false] := by rw [numW, numOk_none h]; rfl
theorem numW_ok {s : List UInt8} (h : numOk s) : numW s = .tuple #[.int .i64 (svalF s), .bool true] := by rw [numW, numOk_some h]; rfl
theorem wrapU64n {z : Int} (h1 : 0 ≤ z) (h2 : z < 18446744073709551616) : IntKind.u64.wrap z = z := by rw [IntKind.wrap_u64]; omega
theorem head_at {l : List UInt8} {c : UInt8} (h : l.head? = some c) : l[0]? = some c := by cases l with | nil => cases h | cons a r => exact h
def badN (n : Bool) (t : List UInt8) : Bool := decide (t.length < 1 ∨ 19 < t.length ∨ (t.head? = some 48 ∧ (1 < t.length ∨ n = true)))
theorem refNum_c (w : World) (s : List UInt8) (hs : s.length ≤ 1000000) :
    Calls Tryd.prog 29 [.string (bs s)].toArray w (fun e w' => e = .returned (numW s) ∧ Ext [] w w') := by
  refine calls (n := 86) Tryd.func29 rfl Tryd.ntmps29 rfl ?_
  refine CW.sub (H' := SH w [] []) ?_ (Sub.refl _) (fun x hx => SH.start' _ _ hx)
  refine CW.seq (CW.region ?_)
  refine RW.assign rfl rfl ?_
  refine RW.assign rfl rfl ?_
  refine RW.nil (EX.seq (CW.seq ?_))
  -- mq: region
  refine CW.join ([(0, .string (bs s)), (4, .bool (negB s))]) (SH w [] []) ?_ ?_
  · skip
    refine CW.region ?_
    refine RW.move rfl rfl ?_
    refine RW.lenS Tryd.underlying9 rfl rfl ?_
    refine RW.gtr rfl rfl rfl ?_
    refine RW.move rfl rfl ?_
    -- mq: guard slot 11
    refine RW.casesB 11 rfl (fun h1 => ?_) (fun h1 => ?_)
    · skip
      have h1p := of_decide_eq_true h1
      obtain ⟨c, hc⟩ : ∃ c, s[0]? = some c := ⟨s[0]'(by omega), List.getElem?_eq_getElem _⟩
      have hc8 := UInt8.toNat_lt c
      have hhd : s.head? = some c := by cases s with | nil => cases hc | cons a r => exact hc
      have e : negB s = decide ((c.toNat : Int) = 45) := by
        rw [negB, hhd, decide_eq_decide]
        constructor
        · intro e; rw [Option.some.inj e]; rfl
        · intro e; rw [show c = 45 from UInt8.toNat_inj.1 (by have : (45 : UInt8).toNat = 45 := rfl; omega)]
      rw [e]
      refine RW.guardT rfl rfl h1 ?_
      refine RW.move rfl rfl ?_
      refine RW.guardT rfl rfl h1 ?_
      refine RW.ixStr (q := 0) Tryd.underlying9 rfl rfl rfl (by rfl) hc ?_
      refine RW.guardT rfl rfl h1 ?_
      refine RW.eqlI rfl rfl rfl ?_
      refine RW.pickB rfl rfl h1 rfl ?_
      refine RW.assign rfl rfl ?_
      refine RW.nil ?_
      -- mq: joinend
      exact EX.jn (by repeat (first | exact Sub.nil | refine Sub.cons (by rfl) ?_)) (fun _ h => h)
    · skip
      have h1p := of_decide_eq_false h1
      have e : negB s = false := by
        have : s = [] := List.length_eq_zero_iff.1 (by omega)
        rw [this]; rfl
      rw [e]
      refine RW.guardF rfl rfl rfl h1 ?_
      refine RW.guardF rfl rfl rfl h1 ?_
      refine RW.guardF rfl rfl rfl h1 ?_
      refine RW.pickC rfl rfl h1 rfl ?_
      refine RW.assign rfl rfl ?_
      refine RW.nil ?_
      -- mq: joinend
      exact EX.jn (by repeat (first | exact Sub.nil | refine Sub.cons (by rfl) ?_)) (fun _ h => h)
  · skip
    refine EX.seq (CW.seq (CW.region ?_))
    refine RW.move rfl rfl ?_
    refine RW.assign rfl rfl ?_
    refine RW.nil (EX.seq (CW.seq ?_))
    -- mq: seq
    refine CW.join ([(4, .bool (negB s)), (5, .string (bs (tailN s)))]) (SH w [] []) ?_ ?_
    · skip
      refine CW.seq (CW.region ?_)
      refine RW.move rfl rfl ?_
      refine RW.nil (EX.seq ?_)
      -- mq: cond
      first | refine CW.condD rfl (fun h2 => ?_) (fun h2 => ?_) | refine CW.cond rfl (fun h2 => ?_) (fun h2 => ?_)
      · skip
        have h3 : s.head? = some 45 := h2
        have hl : 1 ≤ s.length := by cases s with | nil => simp at h3 | cons a r => simp
        have e : tailN s = s.drop 1 := by rw [tailN, if_pos h3, List.drop_one]
        rw [e]
        refine CW.region ?_
        refine RW.move rfl rfl ?_
        refine RW.sliceStrL 1 Tryd.underlying9 rfl rfl rfl (by first | rfl | omega) (by first | omega | (simp; done) | (simp; omega)) ?_
        refine RW.assign rfl rfl ?_
        refine RW.nil ?_
        -- mq: joinend
        exact EX.jn (by repeat (first | exact Sub.nil | refine Sub.cons (by rfl) ?_)) (fun _ h => h)
      · skip
        have h3 : ¬ s.head? = some 45 := h2
        rw [show tailN s = s from if_neg h3]
        refine CW.skip ?_
        -- mq: joinend
        exact EX.jn (by repeat (first | exact Sub.nil | refine Sub.cons (by rfl) ?_)) (fun _ h => h)
    · skip
      have hko := @numOk_eq s
      have hsn := @sval_neg s
      have hsp := @sval_pos s
      have htl : (tailN s).length ≤ 1000000 := by unfold tailN; split; rw [List.length_tail]; omega; exact hs
      generalize tailN s = t at *
      refine EX.seq (CW.seq (CW.seq ?_))
      -- mq: region
      refine CW.join ([(4, .bool (negB s)), (5, .string (bs t)), (40, .bool (badN (negB s) t))]) (SH w [] []) ?_ ?_
      · skip
        refine CW.region ?_
        refine RW.move rfl rfl ?_
        refine RW.lenS Tryd.underlying9 rfl rfl ?_
        refine RW.lss rfl rfl rfl ?_
        refine RW.move rfl rfl ?_
        -- mq: guard slot 23
        refine RW.casesB 23 rfl (fun h1 => ?_) (fun h1 => ?_)
        · skip
          have h1p := of_decide_eq_true h1
          rw [show badN (negB s) t = true from decide_eq_true (.inl (by omega))]
          refine RW.guardF rfl rfl rfl h1 ?_
          refine RW.guardF rfl rfl rfl h1 ?_
          refine RW.guardF rfl rfl rfl h1 ?_
          refine RW.pickB rfl rfl h1 rfl ?_
          refine RW.move rfl rfl ?_
          refine RW.guardF rfl rfl rfl rfl ?_
          refine RW.guardF rfl rfl rfl rfl ?_
          refine RW.guardF rfl rfl rfl rfl ?_
          refine RW.guardF rfl rfl rfl rfl ?_
          refine RW.guardU rfl rfl rfl ?_
          refine RW.guardU rfl rfl rfl ?_
          refine RW.guardU rfl rfl rfl ?_
          refine RW.guardU rfl rfl rfl ?_
          refine RW.guardU rfl rfl rfl ?_
          refine RW.guardU rfl rfl rfl ?_
          refine RW.guardF rfl rfl rfl rfl ?_
          refine RW.pickB rfl rfl rfl rfl ?_
          refine RW.nil ?_
          -- mq: joinend
          exact EX.jn (by repeat (first | exact Sub.nil | refine Sub.cons (by rfl) ?_)) (fun _ h => h)
        · skip
          have h1p := of_decide_eq_false h1
          refine RW.guardT rfl rfl h1 ?_
          refine RW.move rfl rfl ?_
          refine RW.guardT rfl rfl h1 ?_
          refine RW.lenS Tryd.underlying9 rfl rfl ?_
          refine RW.guardT rfl rfl h1 ?_
          refine RW.gtr rfl rfl rfl ?_
          refine RW.pickC rfl rfl h1 rfl ?_
          refine RW.move rfl rfl ?_
          -- mq: guard slot 28
          refine RW.casesB 28 rfl (fun h3 => ?_) (fun h3 => ?_)
          · skip
            have h3p := of_decide_eq_true h3
            rw [show badN (negB s) t = true from decide_eq_true (.inr (.inl (by omega)))]
            refine RW.guardF rfl rfl rfl h3 ?_
            refine RW.guardF rfl rfl rfl h3 ?_
            refine RW.guardF rfl rfl rfl h3 ?_
            refine RW.guardF rfl rfl rfl h3 ?_
            refine RW.guardU rfl rfl rfl ?_
            refine RW.guardU rfl rfl rfl ?_
            refine RW.guardU rfl rfl rfl ?_
            refine RW.guardU rfl rfl rfl ?_
            refine RW.guardU rfl rfl rfl ?_
            refine RW.guardU rfl rfl rfl ?_
            refine RW.guardF rfl rfl rfl h3 ?_
            refine RW.pickB rfl rfl h3 rfl ?_
            refine RW.nil ?_
            -- mq: joinend
            exact EX.jn (by repeat (first | exact Sub.nil | refine Sub.cons (by rfl) ?_)) (fun _ h => h)
          · skip
            have h3p := of_decide_eq_false h3
            obtain ⟨c, r, rfl⟩ : ∃ c r, t = c :: r := by cases t with | nil => exact absurd h1p (by simp) | cons c r => exact ⟨c, r, rfl⟩
            have hc8 := UInt8.toNat_lt c
            have h48 : (c :: r).head? = some 48 ↔ (c.toNat : Int) = 48 := by
              constructor
              · intro e; rw [Option.some.inj e]; rfl
              · intro e; rw [show c = 48 from UInt8.toNat_inj.1 (by have : (48 : UInt8).toNat = 48 := rfl; omega)]; rfl
            refine RW.guardT rfl rfl h3 ?_
            refine RW.move rfl rfl ?_
            refine RW.guardT rfl rfl h3 ?_
            refine RW.ixStr (q := 0) Tryd.underlying9 rfl rfl rfl (by rfl) rfl ?_
            refine RW.guardT rfl rfl h3 ?_
            refine RW.eqlI rfl rfl rfl ?_
            refine RW.guardT rfl rfl h3 ?_
            refine RW.move rfl rfl ?_
            -- mq: guard slot 32
            refine RW.casesB 32 rfl (fun h4 => ?_) (fun h4 => ?_)
            · skip
              have h4p := of_decide_eq_true h4
              refine RW.guardT rfl rfl h4 ?_
              refine RW.move rfl rfl ?_
              refine RW.guardT rfl rfl h4 ?_
              refine RW.lenS Tryd.underlying9 rfl rfl ?_
              refine RW.guardT rfl rfl h4 ?_
              refine RW.gtr rfl rfl rfl ?_
              refine RW.guardT rfl rfl h4 ?_
              refine RW.move rfl rfl ?_
              -- mq: guard slot 36
              refine RW.casesB 36 rfl (fun h5 => ?_) (fun h5 => ?_)
              · skip
                have h5p := of_decide_eq_true h5
                rw [show badN (negB s) (c :: r) = true from decide_eq_true (.inr (.inr ⟨h48.2 h4p, .inl (by omega)⟩))]
                refine RW.guardF rfl rfl rfl h5 ?_
                refine RW.guardT rfl rfl h4 ?_
                refine RW.pickB rfl rfl h5 rfl ?_
                refine RW.guardT rfl rfl h3 ?_
                refine RW.pickB rfl rfl h4 rfl ?_
                refine RW.pickC rfl rfl h3 rfl ?_
                refine RW.nil ?_
                -- mq: joinend
                exact EX.jn (by repeat (first | exact Sub.nil | refine Sub.cons (by rfl) ?_)) (fun _ h => h)
              · skip
                have h5p := of_decide_eq_false h5
                have e : badN (negB s) (c :: r) = negB s := by
                  unfold badN
                  cases negB s with
                  | true => exact decide_eq_true (.inr (.inr ⟨h48.2 h4p, .inr rfl⟩))
                  | false => refine decide_eq_false ?_; rintro (h | h | ⟨_, h | h⟩); omega; omega; omega; cases h
                rw [e]
                refine RW.guardT rfl rfl h5 ?_
                refine RW.move rfl rfl ?_
                refine RW.guardT rfl rfl h4 ?_
                refine RW.pickC rfl rfl h5 rfl ?_
                refine RW.guardT rfl rfl h3 ?_
                refine RW.pickB rfl rfl h4 rfl ?_
                refine RW.pickC rfl rfl h3 rfl ?_
                refine RW.nil ?_
                -- mq: joinend
                exact EX.jn (by repeat (first | exact Sub.nil | refine Sub.cons (by rfl) ?_)) (fun _ h => h)
            · skip
              have h4p := of_decide_eq_false h4
              rw [show badN (negB s) (c :: r) = false from decide_eq_false (by rintro (h | h | ⟨h, _⟩); omega; omega; exact h4p (h48.1 h))]
              refine RW.guardF rfl rfl rfl h4 ?_
              refine RW.guardF rfl rfl rfl h4 ?_
              refine RW.guardF rfl rfl rfl h4 ?_
              refine RW.guardF rfl rfl rfl h4 ?_
              refine RW.guardU rfl rfl rfl ?_
              refine RW.guardF rfl rfl rfl h4 ?_
              refine RW.guardT rfl rfl h3 ?_
              refine RW.pickC rfl rfl h4 rfl ?_
              refine RW.pickC rfl rfl h3 rfl ?_
              refine RW.nil ?_
              -- mq: joinend
              exact EX.jn (by repeat (first | exact Sub.nil | refine Sub.cons (by rfl) ?_)) (fun _ h => h)
      · skip
        refine EX.seq ?_
        -- mq: cond
        first | refine CW.condD rfl (fun hbad => ?_) (fun hbad => ?_) | refine CW.cond rfl (fun hbad => ?_) (fun hbad => ?_)
        · skip
          refine CW.seq (CW.region ?_)
          refine RW.assign rfl rfl ?_
          refine RW.assign rfl rfl ?_
          refine RW.nil (EX.seq (CW.ret (EX.seqR ?_)))
          refine EX.fin2 Tryd.results29 rfl rfl (fun wz hw => ?_)
          -- mq: done
          exact ⟨by rw [numW_no (fun h => by have hb : _ := hbad; have := hko.1 h; rcases hb with h | h | h; omega; omega; exact this.2.2.1 h)], hw.ext⟩
        · skip
          have hb1 : 1 ≤ t.length ∧ t.length ≤ 19 ∧ ¬ (t.head? = some 48 ∧ (1 < t.length ∨ negB s = true)) := by
            refine ⟨?_, ?_, fun h => hbad (.inr (.inr h))⟩
            · rcases Nat.lt_or_ge t.length 1 with h | h
              · exact absurd (.inl h) hbad
              · exact h
            · rcases Nat.lt_or_ge 19 t.length with h | h
              · exact absurd (.inr (.inl h)) hbad
              · exact h
          obtain ⟨hb1, hb2, hb3⟩ := hb1
          refine CW.skip (EX.seq (CW.seq (CW.region ?_)))
          refine RW.assign rfl rfl ?_
          refine RW.nil (EX.seq (CW.seq (CW.seq (CW.region ?_))))
          refine RW.assign rfl rfl ?_
          refine RW.nil (EX.seq (CW.block ?_))
          -- mq: loop
          refine CW.loop (ι := Nat) (fun i => [(4, .bool (negB s)), (5, .string (bs t)), (6, .int .u64 ((numD (t.take i) : Nat) : Int)), (7, .int .i64 (i : Int))]) (fun _ => SH w [] []) (fun i => i ≤ t.length ∧ ∀ c ∈ t.take i, digitB c = true) (fun i => t.length - i) ?_ ?_
          · exact fun w' hw' => ⟨0, ⟨Nat.zero_le _, by simp⟩, (by repeat (first | exact Sub.nil | refine Sub.cons (by rfl) ?_)), hw'⟩
          · rintro i ⟨hi, hdg⟩
            refine CW.seq (CW.seq (CW.region ?_))
            refine RW.move rfl rfl ?_
            refine RW.move rfl rfl ?_
            refine RW.lenS Tryd.underlying9 rfl rfl ?_
            refine RW.lss rfl rfl rfl ?_
            refine RW.nil (EX.seq ?_)
            -- mq: cond
            first | refine CW.condD rfl (fun hlt => ?_) (fun hlt => ?_) | refine CW.cond rfl (fun hlt => ?_) (fun hlt => ?_)
            · skip
              obtain ⟨c, hc⟩ : ∃ c, t[i]? = some c := ⟨t[i]'(by omega), List.getElem?_eq_getElem _⟩
              have hc8 := UInt8.toNat_lt c
              have hmem := List.mem_of_getElem? hc
              have hub := numD_lt 18 (t.take i) (by rw [List.length_take]; omega) hdg
              have htk : t.take (i + 1) = t.take i ++ [c] := by rw [List.take_add_one, hc]; rfl
              have hnx := numD_snoc (t.take i) c
              rw [← htk] at hnx
              refine CW.skip (EX.seq (CW.seq (CW.block (CW.seq (CW.seq (CW.region ?_))))))
              refine RW.move rfl rfl ?_
              refine RW.move rfl rfl ?_
              refine RW.ixStr (q := i) Tryd.underlying9 rfl rfl rfl (by omega) hc ?_
              refine RW.lss rfl rfl rfl ?_
              refine RW.move rfl rfl ?_
              -- mq: guard slot 51
              refine RW.casesB 51 rfl (fun h6 => ?_) (fun h6 => ?_)
              · skip
                have h6p := of_decide_eq_true h6
                refine RW.guardF rfl rfl rfl h6 ?_
                refine RW.guardF rfl rfl rfl h6 ?_
                refine RW.guardF rfl rfl rfl h6 ?_
                refine RW.guardF rfl rfl rfl h6 ?_
                refine RW.pickB rfl rfl h6 rfl ?_
                refine RW.nil (EX.seq ?_)
                -- mq: cond
                refine CW.condT rfl (rfl) ?_
                refine CW.seq (CW.region ?_)
                refine RW.assign rfl rfl ?_
                refine RW.assign rfl rfl ?_
                refine RW.nil (EX.seq (CW.ret (EX.seqR (EX.bkR (EX.seqR (EX.lpR (EX.bkR (EX.seqR ?_))))))))
                refine EX.fin2 Tryd.results29 rfl rfl (fun wz hw => ?_)
                -- mq: done
                exact ⟨by rw [numW_no (fun h => by have := of_decide_eq_true ((hko.1 h).2.2.2.1 c hmem); omega)], hw.ext⟩
              · skip
                have h6p := of_decide_eq_false h6
                refine RW.guardT rfl rfl h6 ?_
                refine RW.move rfl rfl ?_
                refine RW.guardT rfl rfl h6 ?_
                refine RW.move rfl rfl ?_
                refine RW.guardT rfl rfl h6 ?_
                refine RW.ixStr (q := i) Tryd.underlying9 rfl rfl rfl (by omega) hc ?_
                refine RW.guardT rfl rfl h6 ?_
                refine RW.gtr rfl rfl rfl ?_
                refine RW.pickC rfl rfl h6 rfl ?_
                refine RW.nil (EX.seq ?_)
                -- mq: cond
                first | refine CW.condD rfl (fun h7 => ?_) (fun h7 => ?_) | refine CW.cond rfl (fun h7 => ?_) (fun h7 => ?_)
                · skip
                  refine CW.seq (CW.region ?_)
                  refine RW.assign rfl rfl ?_
                  refine RW.assign rfl rfl ?_
                  refine RW.nil (EX.seq (CW.ret (EX.seqR (EX.bkR (EX.seqR (EX.lpR (EX.bkR (EX.seqR ?_))))))))
                  refine EX.fin2 Tryd.results29 rfl rfl (fun wz hw => ?_)
                  -- mq: done
                  exact ⟨by rw [numW_no (fun h => by have := of_decide_eq_true ((hko.1 h).2.2.2.1 c hmem); omega)], hw.ext⟩
                · skip
                  refine CW.skip (EX.seq (CW.region ?_))
                  refine RW.move rfl rfl ?_
                  refine RW.mul (r := ((10 * numD (t.take i) : Nat) : Int)) rfl rfl rfl (by rw [wrapU64n (by omega) (by omega)]; omega) ?_
                  refine RW.move rfl rfl ?_
                  refine RW.move rfl rfl ?_
                  refine RW.ixStr (q := i) Tryd.underlying9 rfl rfl rfl (by omega) hc ?_
                  refine RW.sub_ (r := ((c.toNat - 48 : Nat) : Int)) rfl rfl rfl (by rw [IntKind.wrap_u8]; omega) ?_
                  refine RW.convI (r := ((c.toNat - 48 : Nat) : Int)) rfl rfl Tryd.underlying5 Tryd.underlying81 (wrapU64n (by omega) (by omega)) ?_
                  refine RW.add (r := ((numD (t.take (i + 1)) : Nat) : Int)) rfl rfl rfl (by rw [wrapU64n (by omega) (by omega)]; omega) ?_
                  refine RW.assign rfl rfl ?_
                  refine RW.nil (EX.bkN (EX.seq (CW.region ?_)))
                  refine RW.move rfl rfl ?_
                  refine RW.add rfl rfl rfl (wrap64 (by omega) (by omega)) ?_
                  refine RW.assign rfl rfl ?_
                  refine RW.nil ?_
                  -- mq: loopend
                  refine EX.lpN (i + 1) ⟨by omega, fun x hx => ?_⟩ (by omega) (by repeat (first | exact Sub.nil | refine Sub.cons (by rfl) ?_)) (fun w' hw' => hw')
                  rw [htk] at hx
                  rcases List.mem_append.1 hx with hx | hx
                  · exact hdg x hx
                  · rw [List.mem_singleton.1 hx]; exact decide_eq_true ⟨by omega, by omega⟩
            · skip
              have hte : t.take i = t := List.take_of_length_le (by omega)
              rw [hte] at hdg ⊢
              have hub := numD_lt 19 t hb2 hdg
              refine CW.exit (EX.seqE (EX.lpE (EX.bkE (EX.seq (CW.seq (CW.seq ?_))))))
              -- mq: region
              cases hN : negB s with
              | true =>
                have hpos : 1 ≤ numD t := by
                  cases t with
                  | nil => exact absurd hb1 (by simp)
                  | cons c r =>
                    have hc := of_decide_eq_true (hdg c (by simp))
                    have h48 : c.toNat ≠ 48 := fun e => hb3 ⟨by rw [show c = 48 from UInt8.toNat_inj.1 e]; rfl, .inr hN⟩
                    rw [numD_eq, List.foldl_cons]
                    refine Nat.le_trans ?_ (stepD_mono r _)
                    unfold stepD
                    omega
                refine CW.region ?_
                refine RW.move rfl rfl ?_
                refine RW.move rfl rfl ?_
                refine RW.guardT rfl rfl rfl ?_
                refine RW.move rfl rfl ?_
                refine RW.guardT rfl rfl rfl ?_
                refine RW.gtr rfl rfl rfl ?_
                refine RW.pickB rfl rfl rfl rfl ?_
                refine RW.move rfl rfl ?_
                -- mq: guard slot 70
                refine RW.casesB 70 rfl (fun h8 => ?_) (fun h8 => ?_)
                · skip
                  have h8p := of_decide_eq_true h8
                  refine RW.guardF rfl rfl rfl h8 ?_
                  refine RW.guardF rfl rfl rfl h8 ?_
                  refine RW.guardF rfl rfl rfl h8 ?_
                  refine RW.guardU rfl rfl rfl ?_
                  refine RW.guardU rfl rfl rfl ?_
                  refine RW.guardF rfl rfl rfl h8 ?_
                  refine RW.pickB rfl rfl h8 rfl ?_
                  refine RW.nil (EX.seq ?_)
                  -- mq: cond
                  refine CW.condT rfl (rfl) ?_
                  refine CW.seq (CW.region ?_)
                  refine RW.assign rfl rfl ?_
                  refine RW.assign rfl rfl ?_
                  refine RW.nil (EX.seq (CW.ret (EX.seqR ?_)))
                  refine EX.fin2 Tryd.results29 rfl rfl (fun wz hw => ?_)
                  -- mq: done
                  exact ⟨by rw [numW_no (fun h => by have := (hko.1 h).2.2.2.2.1 hN; omega)], hw.ext⟩
                · skip
                  have h8p := of_decide_eq_false h8
                  refine RW.guardT rfl rfl h8 ?_
                  refine RW.move rfl rfl ?_
                  refine RW.guardT rfl rfl h8 ?_
                  refine RW.not_ rfl rfl ?_
                  refine RW.guardT rfl rfl h8 ?_
                  refine RW.move rfl rfl ?_
                  refine RW.guardF rfl rfl rfl rfl ?_
                  refine RW.guardF rfl rfl rfl rfl ?_
                  refine RW.guardT rfl rfl h8 ?_
                  refine RW.pickC rfl rfl rfl rfl ?_
                  refine RW.pickC rfl rfl h8 rfl ?_
                  refine RW.nil (EX.seq ?_)
                  -- mq: cond
                  refine CW.condF rfl (rfl) ?_
                  refine CW.skip (EX.seq (CW.seq (CW.seq (CW.region ?_))))
                  refine RW.move rfl rfl ?_
                  refine RW.nil (EX.seq ?_)
                  -- mq: cond
                  refine CW.condT rfl (rfl) ?_
                  refine CW.seq (CW.region ?_)
                  refine RW.move rfl rfl ?_
                  refine RW.sub_ (r := ((numD t - 1 : Nat) : Int)) rfl rfl rfl (by rw [wrapU64n (by omega) (by omega)]; omega) ?_
                  refine RW.convI (r := ((numD t - 1 : Nat) : Int)) rfl rfl Tryd.underlying81 Tryd.underlying3 (wrap64 (by omega) (by omega)) ?_
                  refine RW.neg_ (r := -((numD t - 1 : Nat) : Int)) rfl rfl (by rw [wrap64 (by omega) (by omega)]; omega) ?_
                  refine RW.sub_ (r := -((numD t : Nat) : Int)) rfl rfl rfl (by rw [wrap64 (by omega) (by omega)]; omega) ?_
                  refine RW.assign rfl rfl ?_
                  refine RW.assign rfl rfl ?_
                  refine RW.nil (EX.seq (CW.ret (EX.seqR ?_)))
                  refine EX.fin2 Tryd.results29 rfl rfl (fun wz hw => ?_)
                  -- mq: done
                  refine ⟨?_, hw.ext⟩
                  rw [numW_ok (hko.2 ⟨hb1, hb2, hb3, hdg, fun _ => by omega, fun h => absurd hN h⟩), hsn hN]
              | false =>
                have hN2 : ¬ negB s = true := by rw [hN]; decide
                refine CW.region ?_
                refine RW.move rfl rfl ?_
                refine RW.move rfl rfl ?_
                refine RW.guardF rfl rfl rfl rfl ?_
                refine RW.guardF rfl rfl rfl rfl ?_
                refine RW.pickC rfl rfl rfl rfl ?_
                refine RW.move rfl rfl ?_
                refine RW.guardT rfl rfl rfl ?_
                refine RW.move rfl rfl ?_
                refine RW.guardT rfl rfl rfl ?_
                refine RW.not_ rfl rfl ?_
                refine RW.guardT rfl rfl rfl ?_
                refine RW.move rfl rfl ?_
                -- mq: guard slot 73
                refine RW.guardT rfl rfl rfl ?_
                refine RW.move rfl rfl ?_
                refine RW.guardT rfl rfl rfl ?_
                refine RW.gtr rfl rfl rfl ?_
                refine RW.guardT rfl rfl rfl ?_
                refine RW.pickB rfl rfl rfl rfl ?_
                refine RW.pickC rfl rfl rfl rfl ?_
                refine RW.nil (EX.seq ?_)
                -- mq: cond
                first | refine CW.condD rfl (fun h9 => ?_) (fun h9 => ?_) | refine CW.cond rfl (fun h9 => ?_) (fun h9 => ?_)
                · skip
                  refine CW.seq (CW.region ?_)
                  refine RW.assign rfl rfl ?_
                  refine RW.assign rfl rfl ?_
                  refine RW.nil (EX.seq (CW.ret (EX.seqR ?_)))
                  refine EX.fin2 Tryd.results29 rfl rfl (fun wz hw => ?_)
                  -- mq: done
                  exact ⟨by rw [numW_no (fun h => by have := (hko.1 h).2.2.2.2.2 hN2; omega)], hw.ext⟩
                · skip
                  refine CW.skip (EX.seq (CW.seq (CW.seq (CW.region ?_))))
                  refine RW.move rfl rfl ?_
                  refine RW.nil (EX.seq ?_)
                  -- mq: cond
                  refine CW.condF rfl (rfl) ?_
                  refine CW.skip (EX.seq (CW.seq (CW.region ?_)))
                  refine RW.move rfl rfl ?_
                  refine RW.convI (r := ((numD t : Nat) : Int)) rfl rfl Tryd.underlying81 Tryd.underlying3 (wrap64 (by omega) (by omega)) ?_
                  refine RW.assign rfl rfl ?_
                  refine RW.assign rfl rfl ?_
                  refine RW.nil (EX.seq (CW.ret ?_))
                  refine EX.fin2 Tryd.results29 rfl rfl (fun wz hw => ?_)
                  -- mq: done
                  refine ⟨?_, hw.ext⟩
                  rw [numW_ok (hko.2 ⟨hb1, hb2, hb3, hdg, fun h => absurd h hN2, fun _ => by omega⟩), hsp hN2]
end Go.Proofs.YtnpafpnameleaaaDoor.Mq
