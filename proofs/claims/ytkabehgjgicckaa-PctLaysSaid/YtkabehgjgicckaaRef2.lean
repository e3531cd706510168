/- walks: the reference's Take, File -/
import Derived.Test.YtkabehgjgicckaaRef1
namespace Go.Proofs.Ytkabehgjgicckaa.Mq
open Go Go.RowKit Go.Proofs

/-- does a text begin with a % and its digits? -/
def hit : List UInt8 → Bool
  | c :: a :: b :: _ => decide (c = 37) && (decide (0 ≤ hexI a) && decide (0 ≤ hexI b))
  | _ => false
theorem hit_true {s : List UInt8} (h : hit s = true) : ∃ a b t, s = 37 :: a :: b :: t ∧ 0 ≤ hexI a ∧ 0 ≤ hexI b := by
  match s, h with
  | c :: a :: b :: t, h =>
    simp only [hit, Bool.and_eq_true, decide_eq_true_eq] at h
    exact ⟨a, b, t, by rw [h.1], h.2.1, h.2.2⟩
theorem hit_false {c : UInt8} {t : List UInt8} (h : hit (c :: t) = false) : takeL (c :: t) = (c :: (takeL t).1, if c = 37 then false else (takeL t).2) := by
  by_cases hc : c = 37
  · subst hc
    rw [takeL_bad, if_pos rfl]
    rintro a b u rfl ⟨h1, h2⟩
    simp [hit, h1, h2] at h
  · rw [takeL_cons hc, if_neg hc]
theorem refTake_c (w : World) (s : List UInt8) (hs : s.length ≤ 1000000) :
    Calls Try.prog 15 [.string (bs s)].toArray w (fun e w' => e = .returned (.tuple #[.string (bs (takeL s).1), .bool (takeL s).2]) ∧ Ext [] w w') := by
  refine calls (n := 56) Try.func15 rfl Try.ntmps15 rfl ?_
  refine CW.sub (H' := SH w [] []) ?_ (Sub.refl _) (fun x hx => SH.start' _ _ hx)
  refine CW.seq (CW.region ?_)
  refine RW.assign rfl rfl ?_
  refine RW.assign rfl rfl ?_
  refine RW.nil (EX.seq (CW.seq (CW.region ?_)))
  refine RW.assign rfl rfl ?_
  refine RW.nil (EX.seq (CW.seq ?_))
  -- mq: region
  refine CW.ownNil 5 1 ?_
  refine CW.region ?_
  refine RW.assign rfl rfl ?_
  refine RW.nil (EX.seq (CW.seq (CW.block ?_)))
  -- mq: loop
  refine CW.loop (ι := List UInt8 × Value × List UInt8 × Bool) (fun t => [(0, .string (bs t.1)), (4, .bool t.2.2.2), (5, t.2.1)]) (fun t => SH w [] [own 5 1 t.2.1 t.2.2.1.length (EU8.all t.2.2.1)]) (fun t => t.2.2.1.length + t.1.length ≤ s.length ∧ takeL s = (t.2.2.1 ++ (takeL t.1).1, t.2.2.2 && (takeL t.1).2)) (fun t => t.1.length) ?_ ?_
  · exact fun w' hw' => ⟨(s, .slice none 0 0, [], true), ⟨by simp, by simp⟩, (by repeat (first | exact Sub.nil | refine Sub.cons (by rfl) ?_)), hw'⟩
  · rintro ⟨r, v, O, al⟩ ⟨hO, hspec⟩
    dsimp only at hO hspec ⊢
    refine CW.seq (CW.seq (CW.region ?_))
    refine RW.move rfl rfl ?_
    refine RW.lenS Try.underlying9 rfl rfl ?_
    refine RW.gtr rfl rfl rfl ?_
    refine RW.nil (EX.seq ?_)
    -- mq: cond
    first | refine CW.condD rfl (fun hlt => ?_) (fun hlt => ?_) | refine CW.cond rfl (fun hlt => ?_) (fun hlt => ?_)
    · skip
      have hsnoc : ∀ x : UInt8, EU8.all (O ++ [x]) = EU8.all O ++ EU8.enc x := fun x => Enc.all_snoc EU8 O x
      cases r with
      | nil => simp at hlt
      | cons c t =>
      simp only [List.length_cons] at hO
      refine CW.skip (EX.seq (CW.block (CW.seq (CW.seq ?_))))
      -- mq: region
      refine CW.join ([(28, .bool (hit (c :: t))), (0, .string (bs (c :: t))), (4, .bool al), (5, v)]) (SH w [] [own 5 1 v O.length (EU8.all O)]) ?_ ?_
      · skip
        refine CW.region ?_
        refine RW.move rfl rfl ?_
        refine RW.ixStr (q := 0) Try.underlying9 rfl rfl rfl (by rfl) (rfl : (c :: t)[0]? = some c) ?_
        refine RW.eqlI rfl rfl rfl ?_
        refine RW.move rfl rfl ?_
        -- mq: guard slot 12
        refine RW.casesB 12 rfl (fun h12 => ?_) (fun h12 => ?_)
        · skip
          have h12p := of_decide_eq_true h12
          have hc37 : c = 37 := UInt8.toNat_inj.1 (by have : (37 : UInt8).toNat = 37 := rfl; omega)
          subst hc37
          refine RW.guardT rfl rfl h12 ?_
          refine RW.move rfl rfl ?_
          refine RW.guardT rfl rfl h12 ?_
          refine RW.lenS Try.underlying9 rfl rfl ?_
          refine RW.guardT rfl rfl h12 ?_
          refine RW.gtr rfl rfl rfl ?_
          refine RW.pickB rfl rfl h12 rfl ?_
          refine RW.move rfl rfl ?_
          -- mq: guard slot 17
          refine RW.casesB 17 rfl (fun h17 => ?_) (fun h17 => ?_)
          · skip
            have h17p := of_decide_eq_true h17
            match t, h17p with
            | a :: b :: u, h17p =>
              refine RW.guardT rfl rfl h17 ?_
              refine RW.move rfl rfl ?_
              refine RW.guardT rfl rfl h17 ?_
              refine RW.ixStr (q := 1) Try.underlying9 rfl rfl rfl (by rfl) (rfl : (37 :: a :: b :: u)[1]? = some a) ?_
              refine RW.guardT rfl rfl h17 ?_
              -- mq: op 11: ('Op.call', ('Call.mk', ('Callee.value', ('Operand.func', '24')), ('arr', ('Operand.tmp', '19')), ('arr', '5'))) -> slot 20 ("ref.go:46")
              refine RW.callP rfl ca24 rfl (fun w' _ => digit_c w' a) ?_
              refine RW.guardT rfl rfl h17 ?_
              refine RW.geq rfl rfl rfl ?_
              refine RW.pickB rfl rfl h17 rfl ?_
              refine RW.move rfl rfl ?_
              -- mq: guard slot 23
              refine RW.casesB 23 rfl (fun h23 => ?_) (fun h23 => ?_)
              · skip
                have h23p := of_decide_eq_true h23
                refine RW.guardT rfl rfl h23 ?_
                refine RW.move rfl rfl ?_
                refine RW.guardT rfl rfl h23 ?_
                refine RW.ixStr (q := 2) Try.underlying9 rfl rfl rfl (by rfl) (rfl : (37 :: a :: b :: u)[2]? = some b) ?_
                refine RW.guardT rfl rfl h23 ?_
                -- mq: op 17: ('Op.call', ('Call.mk', ('Callee.value', ('Operand.func', '24')), ('arr', ('Operand.tmp', '25')), ('arr', '5'))) -> slot 26 ("ref.go:46")
                refine RW.callP rfl ca24 rfl (fun w' _ => digit_c w' b) ?_
                refine RW.guardT rfl rfl h23 ?_
                refine RW.geq rfl rfl rfl ?_
                refine RW.pickB rfl rfl h23 rfl ?_
                refine RW.nil ?_
                -- mq: joinend
                exact EX.jn (Sub.cons (congrArg (fun x => some (Value.bool x)) (by simp [hit, h23p])) (by repeat (first | exact Sub.nil | refine Sub.cons (by rfl) ?_))) (fun _ h => h)
              · skip
                have h23p := of_decide_eq_false h23
                refine RW.guardF rfl rfl rfl h23 ?_
                refine RW.guardF rfl rfl rfl h23 ?_
                refine RW.guardF rfl rfl rfl h23 ?_
                refine RW.guardF rfl rfl rfl h23 ?_
                refine RW.pickC rfl rfl h23 rfl ?_
                refine RW.nil ?_
                -- mq: joinend
                exact EX.jn (Sub.cons (congrArg (fun x => some (Value.bool x)) (by simp [hit, h23p])) (by repeat (first | exact Sub.nil | refine Sub.cons (by rfl) ?_))) (fun _ h => h)
            | [], h17p => simp at h17p
            | [a], h17p => simp at h17p
          · skip
            have h17p := of_decide_eq_false h17
            refine RW.guardF rfl rfl rfl h17 ?_
            refine RW.guardF rfl rfl rfl h17 ?_
            refine RW.guardF rfl rfl rfl h17 ?_
            refine RW.guardF rfl rfl rfl h17 ?_
            refine RW.pickC rfl rfl h17 rfl ?_
            refine RW.move rfl rfl ?_
            refine RW.guardF rfl rfl rfl rfl ?_
            refine RW.guardF rfl rfl rfl rfl ?_
            refine RW.guardF rfl rfl rfl rfl ?_
            refine RW.guardF rfl rfl rfl rfl ?_
            refine RW.pickC rfl rfl rfl rfl ?_
            refine RW.nil ?_
            -- mq: joinend
            have : hit (37 :: t) = false := by
              match t, h17p with
              | [], _ => rfl
              | [a], _ => rfl
              | a :: b :: u, h17p => exact absurd (show (2 : Int) < (((37 : UInt8) :: a :: b :: u).length : Int) by simp only [List.length_cons]; omega) h17p
            rw [this]
            exact EX.jn (by repeat (first | exact Sub.nil | refine Sub.cons (by rfl) ?_)) (fun _ h => h)
        · skip
          have h12p := of_decide_eq_false h12
          refine RW.guardF rfl rfl rfl h12 ?_
          refine RW.guardF rfl rfl rfl h12 ?_
          refine RW.guardF rfl rfl rfl h12 ?_
          refine RW.pickC rfl rfl h12 rfl ?_
          refine RW.move rfl rfl ?_
          refine RW.guardF rfl rfl rfl rfl ?_
          refine RW.guardF rfl rfl rfl rfl ?_
          refine RW.guardF rfl rfl rfl rfl ?_
          refine RW.guardF rfl rfl rfl rfl ?_
          refine RW.pickC rfl rfl rfl rfl ?_
          refine RW.move rfl rfl ?_
          refine RW.guardF rfl rfl rfl rfl ?_
          refine RW.guardF rfl rfl rfl rfl ?_
          refine RW.guardF rfl rfl rfl rfl ?_
          refine RW.guardF rfl rfl rfl rfl ?_
          refine RW.pickC rfl rfl rfl rfl ?_
          refine RW.nil ?_
          -- mq: joinend
          have : hit (c :: t) = false := by
            match t with
            | [] => rfl
            | [a] => rfl
            | a :: b :: u =>
              have hc : c ≠ 37 := fun e => h12p (by rw [e]; rfl)
              simp [hit, hc]
          rw [this]
          exact EX.jn (by repeat (first | exact Sub.nil | refine Sub.cons (by rfl) ?_)) (fun _ h => h)
      · skip
        refine EX.seq ?_
        -- mq: cond
        first | refine CW.condD rfl (fun h28 => ?_) (fun h28 => ?_) | refine CW.cond rfl (fun h28 => ?_) (fun h28 => ?_)
        · skip
          obtain ⟨a, b, u, he, ha, hb⟩ := hit_true h28
          simp only [List.cons.injEq] at he
          obtain ⟨rfl, rfl⟩ := he
          have hra := hexI_range a
          have hrb := hexI_range b
          have htwo : ((twoU a b).toNat : Int) = 16 * hexI a + hexI b := by
            rw [twoU, UInt8.toNat_ofNat']
            omega
          rw [takeL_hex ha hb] at hspec
          refine CW.seq ?_
          -- mq: region
          refine CW.drawS [true, true, true, true, true, true, true, true, true, true, false, false, false] 1 (SH w [] [own 5 1 v O.length (EU8.all O)]) mixed (by kernel_rfl) (fun _ hw => hw.drew) (fun _ h => by first | exact h | (have h1 := h.rem Rem.head; first | exact h1 | (have h2 := h1.rem Rem.head; first | exact h2 | (have h3 := h2.rem Rem.head; exact h3)))) (by repeat (first | exact NoP.fin | exact NoP.jn | refine NoP.sq ?_ | refine NoP.bk ?_ | refine NoP.lp ?_)) ?_
          refine QuW.cons rfl (fun wq hq => (RW.move rfl rfl RW.jn)) ?_
          refine QuW.cons rfl (fun wq hq => (RW.move rfl rfl RW.jn)) ?_
          refine QuW.cons rfl (fun wq hq => (RW.ixStr (q := 1) Try.underlying9 rfl rfl rfl (by rfl) (rfl : (37 :: a :: b :: u)[1]? = some a) RW.jn)) ?_
          refine QuW.cons rfl (fun wq hq => (RW.callP rfl ca24 rfl (fun w' _ => digit_c w' a) RW.jn)) ?_
          refine QuW.cons rfl (fun wq hq => (RW.mul rfl rfl rfl (wrap64 (by omega) (by omega)) RW.jn)) ?_
          refine QuW.cons rfl (fun wq hq => (RW.move rfl rfl RW.jn)) ?_
          refine QuW.cons rfl (fun wq hq => (RW.ixStr (q := 2) Try.underlying9 rfl rfl rfl (by rfl) (rfl : (37 :: a :: b :: u)[2]? = some b) RW.jn)) ?_
          refine QuW.cons rfl (fun wq hq => (RW.callP rfl ca24 rfl (fun w' _ => digit_c w' b) RW.jn)) ?_
          refine QuW.cons rfl (fun wq hq => (RW.add rfl rfl rfl (wrap64 (by omega) (by omega)) RW.jn)) ?_
          refine QuW.cons rfl (fun wq hq => (RW.convI rfl rfl Try.underlying3 Try.underlying5 (r := ((twoU a b).toNat : Int)) (by rw [wrapN8 (by omega) (by omega)]; omega) RW.jn)) ?_
          refine QuW.skip ?_
          refine QuW.skip ?_
          refine QuW.skip ?_
          refine QuW.nil ?_
          refine SpW.soft ?_
          refine RW.buildSlc sl38 rfl rfl rfl rfl (fun g39 hg39 hf39 => ?_)
          refine RW.sp1 (fun _ h => by first | exact h | (have h1 := h.rem Rem.head; first | exact h1 | (have h2 := h1.rem Rem.head; first | exact h2 | (have h3 := h2.rem Rem.head; exact h3)))) ?_
          refine SpW.hard ?_
          refine RW.append1 sl38 rfl rfl rfl (by first | exact Rem.head | exact Rem.tail Rem.head | exact Rem.tail (Rem.tail Rem.head) | exact Rem.tail (Rem.tail (Rem.tail Rem.head)) | exact Rem.tail (Rem.tail (Rem.tail (Rem.tail Rem.head))) | exact Rem.tail (Rem.tail (Rem.tail (Rem.tail (Rem.tail Rem.head)))) | exact Rem.tail (Rem.tail (Rem.tail (Rem.tail (Rem.tail (Rem.tail Rem.head)))))) (fun _ => by first | exact Upd.head | exact Upd.tail Upd.head | exact Upd.tail (Upd.tail Upd.head) | exact Upd.tail (Upd.tail (Upd.tail Upd.head)) | exact Upd.tail (Upd.tail (Upd.tail (Upd.tail Upd.head))) | exact Upd.tail (Upd.tail (Upd.tail (Upd.tail (Upd.tail Upd.head)))) | exact Upd.tail (Upd.tail (Upd.tail (Upd.tail (Upd.tail (Upd.tail Upd.head)))))) rfl (by repeat (first | exact Ones.nil | exact Enc.ones _ _ | refine Ones.cons rfl ?_)) (by simp only [maxLen]; omega) (by omega) (fun v40 hv40 => ?_)
          refine RW.assign rfl rfl ?_
          refine RW.nil (EX.seq (CW.seq (CW.region ?_)))
          refine RW.move rfl rfl ?_
          refine RW.sliceStrL (3) Try.underlying9 rfl rfl rfl (by first | rfl | omega) (by first | omega | (simp; done) | (simp; omega)) ?_
          refine RW.assign rfl rfl ?_
          refine RW.nil (EX.seq (CW.exit (EX.seqE (EX.bkE ?_))))
          -- mq: loopend
          refine EX.lpN (u, v40, O ++ [twoU a b], al) ⟨by simp only [List.length_append, List.length_cons, List.length_nil] at hO ⊢; omega, by rw [hspec]; simp⟩ (by simp only [List.length_cons]; omega) (Sub.cons (by simp [look]) (by repeat (first | exact Sub.nil | refine Sub.cons (by rfl) ?_))) (fun w' hw' => ?_)
          dsimp only
          rw [hsnoc, List.length_append]
          exact hw'
        · skip
          rw [hit_false h28] at hspec
          refine CW.skip (EX.seq (CW.seq (CW.seq (CW.region ?_))))
          refine RW.move rfl rfl ?_
          refine RW.ixStr (q := 0) Try.underlying9 rfl rfl rfl (by rfl) (rfl : (c :: t)[0]? = some c) ?_
          refine RW.eqlI rfl rfl rfl ?_
          refine RW.nil (EX.seq ?_)
          -- mq: cond
          first | refine CW.condD rfl (fun h45 => ?_) (fun h45 => ?_) | refine CW.cond rfl (fun h45 => ?_) (fun h45 => ?_)
          · skip
            have hc37 : c = 37 := UInt8.toNat_inj.1 (by have : (37 : UInt8).toNat = 37 := rfl; omega)
            subst hc37
            rw [if_pos rfl] at hspec
            refine CW.region ?_
            refine RW.assign rfl rfl ?_
            refine RW.nil (EX.seq (CW.seq (CW.region ?_)))
            refine RW.move rfl rfl ?_
            refine RW.move rfl rfl ?_
            refine RW.ixStr (q := 0) Try.underlying9 rfl rfl rfl (by rfl) (rfl : (37 :: t)[0]? = some 37) ?_
            refine RW.buildSlc sl38 rfl rfl rfl rfl (fun g49 hg49 hf49 => ?_)
            refine RW.append1 sl38 rfl rfl rfl (by first | exact Rem.head | exact Rem.tail Rem.head | exact Rem.tail (Rem.tail Rem.head) | exact Rem.tail (Rem.tail (Rem.tail Rem.head)) | exact Rem.tail (Rem.tail (Rem.tail (Rem.tail Rem.head))) | exact Rem.tail (Rem.tail (Rem.tail (Rem.tail (Rem.tail Rem.head)))) | exact Rem.tail (Rem.tail (Rem.tail (Rem.tail (Rem.tail (Rem.tail Rem.head)))))) (fun _ => by first | exact Upd.head | exact Upd.tail Upd.head | exact Upd.tail (Upd.tail Upd.head) | exact Upd.tail (Upd.tail (Upd.tail Upd.head)) | exact Upd.tail (Upd.tail (Upd.tail (Upd.tail Upd.head))) | exact Upd.tail (Upd.tail (Upd.tail (Upd.tail (Upd.tail Upd.head)))) | exact Upd.tail (Upd.tail (Upd.tail (Upd.tail (Upd.tail (Upd.tail Upd.head)))))) rfl (by repeat (first | exact Ones.nil | exact Enc.ones _ _ | refine Ones.cons rfl ?_)) (by simp only [maxLen]; omega) (by omega) (fun v50 hv50 => ?_)
            refine RW.assign rfl rfl ?_
            refine RW.nil (EX.seq ?_)
            -- mq: region
            refine CW.region ?_
            refine RW.move rfl rfl ?_
            refine RW.sliceStrL (1) Try.underlying9 rfl rfl rfl (by first | rfl | omega) (by first | omega | (simp; done) | (simp; omega)) ?_
            refine RW.assign rfl rfl ?_
            refine RW.nil (EX.bkN ?_)
            -- mq: loopend
            refine EX.lpN (t, v50, O ++ [37], false) ⟨by simp; omega, by rw [hspec]; simp⟩ (by simp) (Sub.cons (by simp [look]) (by repeat (first | exact Sub.nil | refine Sub.cons (by rfl) ?_))) (fun w' hw' => ?_)
            dsimp only
            rw [hsnoc, List.length_append]
            exact hw'
          · skip
            have hc37 : c ≠ 37 := fun e => h45 (by rw [e]; rfl)
            rw [if_neg hc37] at hspec
            refine CW.skip (EX.seq (CW.seq (CW.region ?_)))
            refine RW.move rfl rfl ?_
            refine RW.move rfl rfl ?_
            refine RW.ixStr (q := 0) Try.underlying9 rfl rfl rfl (by rfl) (rfl : (c :: t)[0]? = some c) ?_
            refine RW.buildSlc sl38 rfl rfl rfl rfl (fun g49 hg49 hf49 => ?_)
            refine RW.append1 sl38 rfl rfl rfl (by first | exact Rem.head | exact Rem.tail Rem.head | exact Rem.tail (Rem.tail Rem.head) | exact Rem.tail (Rem.tail (Rem.tail Rem.head)) | exact Rem.tail (Rem.tail (Rem.tail (Rem.tail Rem.head))) | exact Rem.tail (Rem.tail (Rem.tail (Rem.tail (Rem.tail Rem.head)))) | exact Rem.tail (Rem.tail (Rem.tail (Rem.tail (Rem.tail (Rem.tail Rem.head)))))) (fun _ => by first | exact Upd.head | exact Upd.tail Upd.head | exact Upd.tail (Upd.tail Upd.head) | exact Upd.tail (Upd.tail (Upd.tail Upd.head)) | exact Upd.tail (Upd.tail (Upd.tail (Upd.tail Upd.head))) | exact Upd.tail (Upd.tail (Upd.tail (Upd.tail (Upd.tail Upd.head)))) | exact Upd.tail (Upd.tail (Upd.tail (Upd.tail (Upd.tail (Upd.tail Upd.head)))))) rfl (by repeat (first | exact Ones.nil | exact Enc.ones _ _ | refine Ones.cons rfl ?_)) (by simp only [maxLen]; omega) (by omega) (fun v50 hv50 => ?_)
            refine RW.assign rfl rfl ?_
            refine RW.nil (EX.seq ?_)
            -- mq: region
            refine CW.region ?_
            refine RW.move rfl rfl ?_
            refine RW.sliceStrL (1) Try.underlying9 rfl rfl rfl (by first | rfl | omega) (by first | omega | (simp; done) | (simp; omega)) ?_
            refine RW.assign rfl rfl ?_
            refine RW.nil (EX.bkN ?_)
            -- mq: loopend
            refine EX.lpN (t, v50, O ++ [c], al) ⟨by simp; omega, by rw [hspec]; simp⟩ (by simp) (Sub.cons (by simp [look]) (by repeat (first | exact Sub.nil | refine Sub.cons (by rfl) ?_))) (fun w' hw' => ?_)
            dsimp only
            rw [hsnoc, List.length_append]
            exact hw'
    · skip
      have hr : r = [] := List.eq_nil_of_length_eq_zero (by omega)
      subst hr
      refine CW.formOwn (v := v) Has.head (fun A4 c4 hv4 hcap4 hmax4 hlen4 hg4 => ?_)
      subst hv4
      refine CW.exit (EX.seqE (EX.lpE (EX.bkE (EX.seq (CW.seq (CW.region ?_))))))
      refine RW.move rfl rfl ?_
      -- mq: op 1: ('Op.convert', '38', '9', ('Operand.tmp', '53')) -> slot 54 ("ref.go:57")
      refine RW.bytesStr (s := O) (F := fun k => (Value.slice A4 O.length c4).ownBlock = some k) Try.underlying38 Try.underlying5 Try.underlying9 rfl rfl (fun w' hw' => ?_) ?_
      · obtain ⟨A6, c6, he6, hrd6⟩ := Rd.of_own (E := EU8) (hw'.has Has.head) rfl
        cases he6
        exact hrd6
      refine RW.move rfl rfl ?_
      refine RW.assign rfl rfl ?_
      refine RW.assign rfl rfl ?_
      refine RW.nil (EX.seq (CW.ret ?_))
      refine EX.fin2 Try.results15 rfl rfl (fun wz hw => ?_)
      -- mq: done
      refine ⟨?_, hw.ext⟩
      rw [hspec]
      simp [takeL]
/-- the scheme, letter by letter -/
theorem low_all {s : List UInt8} (h7 : 7 ≤ s.length) : lowL (s.take 7) = schemeL ↔ ∀ (k : Nat) (c : UInt8), k < 7 → s[k]? = some c → (c = schemeL.getD k 0 ∨ c = schemeU.getD k 0) := by
  have hlen : (lowL (s.take 7)).length = 7 := by rw [lowL, List.length_map, List.length_take]; omega
  constructor
  · intro h k c hk hc
    have h1 := low_char ⟨k, hk⟩ c
    dsimp only at h1
    refine h1.1 ?_
    have h2 : (lowL (s.take 7))[k]? = some (lowB c) := by rw [lowL, List.getElem?_map, List.getElem?_take, if_pos hk, hc]; rfl
    rw [h] at h2
    rw [List.getD, h2]; rfl
  · intro h
    apply List.ext_getElem?
    intro k
    rcases Nat.lt_or_ge k 7 with hk | hk
    · obtain ⟨c, hc⟩ : ∃ c, s[k]? = some c := ⟨s[k]'(by omega), List.getElem?_eq_getElem _⟩
      have h1 := (low_char ⟨k, hk⟩ c).2 (h k c hk hc)
      dsimp only at h1
      rw [lowL, List.getElem?_map, List.getElem?_take, if_pos hk, hc, Option.map_some, h1]
      have hl : k < schemeL.length := hk
      rw [List.getD, List.getElem?_eq_getElem hl]; rfl
    · rw [List.getElem?_eq_none (by omega), List.getElem?_eq_none (by show 7 ≤ k; omega)]
def fileR (s : List UInt8) : Value := match fileL s with
  | some p => .tuple #[.string (bs p.1), .string (bs p.2), .bool true]
  | none => .tuple #[.string (bs []), .string (bs []), .bool false]
theorem refFile_c (w : World) (s : List UInt8) (hs : s.length ≤ 1000000) :
    Calls Try.prog 10 [.string (bs s)].toArray w (fun e w' => e = .returned (fileR s) ∧ Ext [] w w') := by
  refine calls (n := 55) Try.func10 rfl Try.ntmps10 rfl ?_
  refine CW.sub (H' := SH w [] []) ?_ (Sub.refl _) (fun x hx => SH.start' _ _ hx)
  refine CW.seq (CW.region ?_)
  refine RW.assign rfl rfl ?_
  refine RW.assign rfl rfl ?_
  refine RW.assign rfl rfl ?_
  refine RW.nil (EX.seq (CW.seq (CW.region ?_)))
  refine RW.assign rfl rfl ?_
  refine RW.assign rfl rfl ?_
  refine RW.nil (EX.seq (CW.seq (CW.seq (CW.region ?_))))
  refine RW.move rfl rfl ?_
  refine RW.lenS Try.underlying9 rfl rfl ?_
  refine RW.lss rfl rfl rfl ?_
  refine RW.nil (EX.seq ?_)
  -- mq: cond
  first | refine CW.condD rfl (fun h13 => ?_) (fun h13 => ?_) | refine CW.cond rfl (fun h13 => ?_) (fun h13 => ?_)
  · skip
    refine CW.seq (CW.region ?_)
    refine RW.assign rfl rfl ?_
    refine RW.assign rfl rfl ?_
    refine RW.assign rfl rfl ?_
    refine RW.nil (EX.seq (CW.ret (EX.seqR ?_)))
    refine EX.fin3 Try.results10 rfl rfl rfl (fun wz hw => ?_)
    -- mq: done
    exact ⟨by rw [fileR, fileL, if_neg (by omega)], hw.ext⟩
  · skip
    refine CW.skip (EX.seq (CW.seq (CW.seq (CW.region ?_))))
    refine RW.assign rfl rfl ?_
    refine RW.nil (EX.seq (CW.block ?_))
    -- mq: loop
    refine CW.loop (ι := Nat) (fun k => [(0, .string (bs s)), (5, .string (bs schemeL)), (6, .string (bs schemeU)), (7, .int .i64 (k : Int))]) (fun _ => SH w [] []) (fun k => k ≤ 7 ∧ ∀ (j : Nat) (c : UInt8), j < k → s[j]? = some c → (c = schemeL.getD j 0 ∨ c = schemeU.getD j 0)) (fun k => 7 - k) ?_ ?_
    · exact fun w' hw' => ⟨0, ⟨Nat.zero_le _, fun j c hj => absurd hj (by omega)⟩, (by repeat (first | exact Sub.nil | refine Sub.cons (by rfl) ?_)), hw'⟩
    · rintro k ⟨hk, hall⟩
      refine CW.seq (CW.seq (CW.region ?_))
      refine RW.move rfl rfl ?_
      refine RW.lss rfl rfl rfl ?_
      refine RW.nil (EX.seq ?_)
      -- mq: cond
      first | refine CW.condD rfl (fun hlt => ?_) (fun hlt => ?_) | refine CW.cond rfl (fun hlt => ?_) (fun hlt => ?_)
      · skip
        obtain ⟨c, hc⟩ : ∃ c, s[k]? = some c := ⟨s[k]'(by omega), List.getElem?_eq_getElem _⟩
        have hL : schemeL.length = 7 := rfl
        have hU : schemeU.length = 7 := rfl
        obtain ⟨x, hx⟩ : ∃ x, schemeL[k]? = some x := ⟨schemeL[k]'(by omega), List.getElem?_eq_getElem _⟩
        obtain ⟨y, hy⟩ : ∃ y, schemeU[k]? = some y := ⟨schemeU[k]'(by omega), List.getElem?_eq_getElem _⟩
        have gx : schemeL.getD k 0 = x := by simp [List.getD, hx]
        have gy : schemeU.getD k 0 = y := by simp [List.getD, hy]
        by_cases h1 : c = x
        · skip
          subst h1
          refine CW.skip (EX.seq (CW.seq (CW.block (CW.seq ?_))))
          refine CW.drawq mixed (by kernel_rfl) (fun _ hw => hw.drew) ?_
          refine DRq.cons rfl (RW.move rfl rfl RW.jn) ?_
          refine DRq.cons rfl (RW.move rfl rfl RW.jn) ?_
          refine DRq.cons rfl (RW.ixStr (q := k) Try.underlying9 rfl rfl rfl (by omega) hc RW.jn) ?_
          refine DRq.cons rfl (RW.move rfl rfl RW.jn) ?_
          refine DRq.cons rfl (RW.move rfl rfl RW.jn) ?_
          refine DRq.cons rfl (RW.ixStr (q := k) Try.underlying9 rfl rfl rfl (by omega) hx RW.jn) ?_
          refine DRq.cons rfl (RW.neqI rfl rfl rfl RW.jn) ?_
          refine DRq.cons rfl (RW.move rfl rfl RW.jn) ?_
          refine DRq.cons rfl (RW.guardF rfl rfl rfl (by simp) RW.jn) ?_
          refine DRq.cons rfl (RW.guardF rfl rfl rfl (by simp) RW.jn) ?_
          refine DRq.cons rfl (RW.guardF rfl rfl rfl (by simp) RW.jn) ?_
          refine DRq.cons rfl (RW.guardF rfl rfl rfl (by simp) RW.jn) ?_
          refine DRq.cons rfl (RW.guardF rfl rfl rfl (by simp) RW.jn) ?_
          refine DRq.cons rfl (RW.guardF rfl rfl rfl (by simp) RW.jn) ?_
          refine DRq.cons rfl (RW.guardF rfl rfl rfl (by simp) RW.jn) ?_
          refine DRq.cons rfl (RW.pickC rfl rfl (by simp) rfl RW.jn) ?_
          refine DRq.nil (EX.seq ?_)
          -- mq: cond
          refine CW.condF rfl (rfl) ?_
          refine CW.skip (EX.bkN (EX.seq (CW.region ?_)))
          refine RW.move rfl rfl ?_
          refine RW.add rfl rfl rfl (wrap64 (by omega) (by omega)) ?_
          refine RW.assign rfl rfl ?_
          refine RW.nil ?_
          -- mq: loopend
          refine EX.lpN (k + 1) ⟨by omega, fun j c' hj hc' => ?_⟩ (by omega) (by repeat (first | exact Sub.nil | refine Sub.cons (by rfl) ?_)) (fun w' hw' => hw')
          by_cases hjk : j = k
          · subst hjk
            rw [hc] at hc'
            simp only [Option.some.injEq] at hc'
            subst hc'
            exact .inl gx.symm
          · exact hall j c' (by omega) hc'
        · skip
          have hne : ¬ c.toNat = x.toNat := fun e => h1 (UInt8.toNat_inj.1 e)
          refine CW.skip (EX.seq (CW.seq (CW.block (CW.seq ?_))))
          refine CW.drawq mixed (by kernel_rfl) (fun _ hw => hw.drew) ?_
          refine DRq.cons rfl (RW.move rfl rfl RW.jn) ?_
          refine DRq.cons rfl (RW.move rfl rfl RW.jn) ?_
          refine DRq.cons rfl (RW.ixStr (q := k) Try.underlying9 rfl rfl rfl (by omega) hc RW.jn) ?_
          refine DRq.cons rfl (RW.move rfl rfl RW.jn) ?_
          refine DRq.cons rfl (RW.move rfl rfl RW.jn) ?_
          refine DRq.cons rfl (RW.ixStr (q := k) Try.underlying9 rfl rfl rfl (by omega) hx RW.jn) ?_
          refine DRq.cons rfl (RW.neqI rfl rfl rfl RW.jn) ?_
          refine DRq.cons rfl (RW.move rfl rfl RW.jn) ?_
          refine DRq.cons rfl (RW.guardT rfl rfl (decide_eq_true (by omega)) (RW.move rfl rfl RW.jn)) ?_
          refine DRq.cons rfl (RW.guardT rfl rfl (decide_eq_true (by omega)) (RW.move rfl rfl RW.jn)) ?_
          refine DRq.cons rfl (RW.guardT rfl rfl (decide_eq_true (by omega)) (RW.ixStr (q := k) Try.underlying9 rfl rfl rfl (by omega) hc RW.jn)) ?_
          refine DRq.cons rfl (RW.guardT rfl rfl (decide_eq_true (by omega)) (RW.move rfl rfl RW.jn)) ?_
          refine DRq.cons rfl (RW.guardT rfl rfl (decide_eq_true (by omega)) (RW.move rfl rfl RW.jn)) ?_
          refine DRq.cons rfl (RW.guardT rfl rfl (decide_eq_true (by omega)) (RW.ixStr (q := k) Try.underlying9 rfl rfl rfl (by omega) hy RW.jn)) ?_
          refine DRq.cons rfl (RW.guardT rfl rfl (decide_eq_true (by omega)) (RW.neqI rfl rfl rfl RW.jn)) ?_
          refine DRq.cons rfl (RW.pickB rfl rfl (decide_eq_true (by omega)) rfl RW.jn) ?_
          refine DRq.nil (EX.seq ?_)
          -- mq: cond
          first | refine CW.condD rfl (fun h33 => ?_) (fun h33 => ?_) | refine CW.cond rfl (fun h33 => ?_) (fun h33 => ?_)
          · skip
            have hne2 : c ≠ y := fun e => h33 (by rw [e])
            refine CW.seq (CW.region ?_)
            refine RW.assign rfl rfl ?_
            refine RW.assign rfl rfl ?_
            refine RW.assign rfl rfl ?_
            refine RW.nil (EX.seq (CW.ret (EX.bkR (EX.seqR (EX.lpR (EX.bkR (EX.seqR ?_)))))))
            refine EX.fin3 Try.results10 rfl rfl rfl (fun wz hw => ?_)
            -- mq: done
            refine ⟨?_, hw.ext⟩
            rw [fileR, fileL, if_neg]
            rintro ⟨h7, hlow⟩
            rcases (low_all h7).1 hlow k c (by omega) hc with h | h
            · exact h1 (h.trans gx)
            · exact hne2 (h.trans gy)
          · skip
            have he2 : c = y := UInt8.toNat_inj.1 (by omega)
            refine CW.skip (EX.bkN (EX.seq (CW.region ?_)))
            refine RW.move rfl rfl ?_
            refine RW.add rfl rfl rfl (wrap64 (by omega) (by omega)) ?_
            refine RW.assign rfl rfl ?_
            refine RW.nil ?_
            -- mq: loopend
            refine EX.lpN (k + 1) ⟨by omega, fun j c' hj hc' => ?_⟩ (by omega) (by repeat (first | exact Sub.nil | refine Sub.cons (by rfl) ?_)) (fun w' hw' => hw')
            by_cases hjk : j = k
            · subst hjk
              rw [hc] at hc'
              simp only [Option.some.injEq] at hc'
              subst hc'
              exact .inr (he2.trans gy.symm)
            · exact hall j c' (by omega) hc'
      · skip
        have hk7 : k = 7 := by omega
        subst hk7
        have hlow : lowL (s.take 7) = schemeL := (low_all (by omega)).2 (fun j c hj hc => hall j c hj hc)
        refine CW.exit (EX.seqE (EX.lpE (EX.bkE (EX.seq (CW.seq (CW.seq (CW.region ?_)))))))
        refine RW.assign rfl rfl ?_
        refine RW.nil (EX.seq (CW.block ?_))
        -- mq: loop
        refine CW.loop (ι := Nat) (fun k => [(0, .string (bs s)), (8, .int .i64 (k : Int))]) (fun _ => SH w [] []) (fun k => 7 ≤ k ∧ k ≤ s.length ∧ ∀ j, 7 ≤ j → j < k → s[j]? ≠ some 47) (fun k => s.length - k) ?_ ?_
        · exact fun w' hw' => ⟨7, ⟨Nat.le_refl _, by omega, fun j h1 h2 => absurd h2 (by omega)⟩, (by repeat (first | exact Sub.nil | refine Sub.cons (by rfl) ?_)), hw'⟩
        · rintro k ⟨hk7, hkl, hno⟩
          have hpre : 47 ∉ (s.drop 7).take (k - 7) := fun hm => by
            obtain ⟨j, hj, he⟩ := List.getElem_of_mem hm
            rw [List.length_take, List.length_drop] at hj
            refine hno (7 + j) (by omega) (by omega) ?_
            have : ((s.drop 7).take (k - 7))[j]? = some 47 := by rw [List.getElem?_eq_getElem (by rw [List.length_take, List.length_drop]; exact hj), he]
            rw [List.getElem?_take, if_pos (by omega), List.getElem?_drop] at this
            exact this
          refine CW.seq (CW.seq (CW.region ?_))
          refine RW.move rfl rfl ?_
          refine RW.move rfl rfl ?_
          refine RW.lenS Try.underlying9 rfl rfl ?_
          refine RW.lss rfl rfl rfl ?_
          refine RW.nil (EX.seq ?_)
          -- mq: cond
          first | refine CW.condD rfl (fun hlt => ?_) (fun hlt => ?_) | refine CW.cond rfl (fun hlt => ?_) (fun hlt => ?_)
          · skip
            obtain ⟨c, hc⟩ : ∃ c, s[k]? = some c := ⟨s[k]'(by omega), List.getElem?_eq_getElem _⟩
            refine CW.skip (EX.seq (CW.seq (CW.block (CW.seq (CW.region ?_)))))
            refine RW.move rfl rfl ?_
            refine RW.move rfl rfl ?_
            refine RW.ixStr (q := k) Try.underlying9 rfl rfl rfl (by omega) hc ?_
            refine RW.eqlI rfl rfl rfl ?_
            refine RW.nil (EX.seq ?_)
            -- mq: cond
            first | refine CW.condD rfl (fun h43 => ?_) (fun h43 => ?_) | refine CW.cond rfl (fun h43 => ?_) (fun h43 => ?_)
            · skip
              have hc47 : c = 47 := UInt8.toNat_inj.1 (by have : (47 : UInt8).toNat = 47 := rfl; omega)
              subst hc47
              have hsplit : s.drop 7 = (s.drop 7).take (k - 7) ++ 47 :: s.drop (k + 1) := by
                have h1 := List.take_append_drop (k - 7) (s.drop 7)
                have h2 := List.drop_eq_getElem_cons (l := s) (i := k) (by omega)
                rw [(List.getElem?_eq_some_iff.1 hc).2] at h2
                rw [List.drop_drop, show 7 + (k - 7) = k by omega, h2] at h1
                exact h1.symm
              have hib : Lib.indexByte (s.drop 7) 47 = ((k - 7 : Nat) : Int) := by
                rcases ib_cases (s.drop 7) 47 with ⟨h1, _⟩ | ⟨pre, post, h1, h2, h3⟩
                · exact absurd (by rw [hsplit]; simp) h1
                · rw [h3]
                  have hlen : ((s.drop 7).take (k - 7)).length = k - 7 := by rw [List.length_take, List.length_drop]; omega
                  generalize hq : (s.drop 7).take (k - 7) = q at *
                  rw [hsplit] at h1
                  have := List.append_eq_append_iff.1 h1
                  rcases this with ⟨zs, e1, e2⟩ | ⟨zs, e1, e2⟩
                  · cases zs with
                    | nil => have := congrArg List.length e1; simp at this; omega
                    | cons y zs =>
                      simp only [List.cons_append, List.cons.injEq] at e2
                      exact absurd (by rw [e1, ← e2.1]; simp) h2
                  · cases zs with
                    | nil => have := congrArg List.length e1; simp at this; omega
                    | cons y zs =>
                      simp only [List.cons_append, List.cons.injEq] at e2
                      exact absurd (by rw [e1, ← e2.1]; simp) hpre
              have hdl : (s.drop k).length ≤ 1000000 := by rw [List.length_drop]; omega
              refine CW.seq (CW.region ?_)
              refine RW.move rfl rfl ?_
              refine RW.move rfl rfl ?_
              refine RW.sliceStrL k Try.underlying9 rfl rfl rfl (by first | rfl | omega) (by first | omega | (simp; done) | (simp; omega)) ?_
              -- mq: op 3: ('Op.call', ('Call.mk', ('Callee.value', ('Operand.func', '15')), ('arr', ('Operand.tmp', '47')), ('arr', '9'))) -> slot 48 ("ref.go:73")
              refine RW.call rfl ca15 rfl (fun w' _ => refTake_c w' (s.drop k) hdl) ?_
              refine RW.move rfl rfl ?_
              refine RW.extract rfl rfl rfl ?_
              refine RW.extract rfl rfl rfl ?_
              refine RW.assign rfl rfl ?_
              refine RW.assign rfl rfl ?_
              refine RW.nil (EX.seq (CW.seq (CW.region ?_)))
              refine RW.move rfl rfl ?_
              refine RW.move rfl rfl ?_
              refine RW.sliceStrLH 7 k Try.underlying9 rfl rfl rfl rfl (by first | rfl | omega) (by first | rfl | omega) (by omega) (by first | omega | (simp; done) | (simp; omega)) ?_
              refine RW.move rfl rfl ?_
              refine RW.assign rfl rfl ?_
              refine RW.assign rfl rfl ?_
              refine RW.assign rfl rfl ?_
              refine RW.nil (EX.seq (CW.ret (EX.bkR (EX.seqR (EX.lpR (EX.bkR (EX.seqR ?_)))))))
              refine EX.fin3 Try.results10 rfl rfl rfl (fun wz hw => ?_)
              -- mq: done
              refine ⟨?_, hw.ext⟩
              rw [fileR, fileL, if_pos ⟨by omega, hlow⟩, hib, if_neg (by omega)]
              simp only [Int.toNat_natCast]
              rw [List.drop_drop, show 7 + (k - 7) = k by omega, List.drop_take]
            · skip
              refine CW.skip (EX.bkN (EX.seq (CW.region ?_)))
              refine RW.move rfl rfl ?_
              refine RW.add rfl rfl rfl (wrap64 (by omega) (by omega)) ?_
              refine RW.assign rfl rfl ?_
              refine RW.nil ?_
              -- mq: loopend
              refine EX.lpN (k + 1) ⟨by omega, by omega, fun j h1 h2 e => ?_⟩ (by omega) (by repeat (first | exact Sub.nil | refine Sub.cons (by rfl) ?_)) (fun w' hw' => hw')
              by_cases hjk : j = k
              · subst hjk
                rw [hc] at e
                simp only [Option.some.injEq] at e
                exact h43 (by rw [e]; rfl)
              · exact hno j h1 (by omega) e
          · skip
            have hkl2 : k = s.length := by omega
            subst hkl2
            refine CW.exit (EX.seqE (EX.lpE (EX.bkE (EX.seq (CW.seq (CW.region ?_))))))
            refine RW.assign rfl rfl ?_
            refine RW.assign rfl rfl ?_
            refine RW.assign rfl rfl ?_
            refine RW.nil (EX.seq (CW.ret ?_))
            refine EX.fin3 Try.results10 rfl rfl rfl (fun wz hw => ?_)
            -- mq: done
            have hnone : 47 ∉ s.drop 7 := by
              rw [List.take_of_length_le (by rw [List.length_drop]; omega)] at hpre
              exact hpre
            refine ⟨?_, hw.ext⟩
            rcases ib_cases (s.drop 7) 47 with ⟨_, h⟩ | ⟨pre, post, hpp, _, _⟩
            · rw [fileR, fileL, if_pos ⟨by omega, hlow⟩, if_pos (by omega)]
            · exact absurd (by rw [hpp]; simp) hnone
end Go.Proofs.Ytkabehgjgicckaa.Mq
