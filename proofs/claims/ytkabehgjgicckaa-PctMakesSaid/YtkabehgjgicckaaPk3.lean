/- walks: take, Take, Strict, File, Make -/
import Derived.Test.YtkabehgjgicckaaBld
namespace Go.Proofs.Ytkabehgjgicckaa.Mq
open Go Go.RowKit Go.Proofs

set_option maxRecDepth 100000 in
theorem or16 : ∀ a b : _root_.Fin 16, a.val * 16 ||| b.val = a.val * 16 + b.val := by decide
theorem codeI_two {a b : UInt8} (ha : 0 ≤ hexI a) (hb : 0 ≤ hexI b) : codeI a b = ((twoU a b).toNat : Int) := by
  have h1 := hexI_range a
  have h2 := hexI_range b
  have e1 : max 0 (hexI a) = hexI a := by omega
  have e2 : max 0 (hexI b) = hexI b := by omega
  have h3 := or16 ⟨(hexI a).toNat, by omega⟩ ⟨(hexI b).toNat, by omega⟩
  dsimp only at h3
  rw [codeI, e1, e2, h3, wrapN8 (by omega) (by omega), twoU]
  have : (UInt8.ofNat (16 * (hexI a).toNat + (hexI b).toNat)).toNat = 16 * (hexI a).toNat + (hexI b).toNat := by
    rw [UInt8.toNat_ofNat']; omega
  omega
theorem take_c (w : World) (s : List UInt8) (hs : s.length ≤ 1000000) :
    Calls Try.prog 22 [.string (bs s)].toArray w (fun e w' => e = .returned (.tuple #[.string (bs (takeL s).1), .bool (takeL s).2]) ∧ Ext [] w w') := by
  refine calls (n := 44) Try.func22 rfl Try.ntmps22 rfl ?_
  refine CW.sub (H' := SH w [] []) ?_ (Sub.refl _) (fun x hx => SH.start' _ _ hx)
  refine CW.seq (CW.region ?_)
  refine RW.assign rfl rfl ?_
  refine RW.assign rfl rfl ?_
  refine RW.nil (EX.seq (CW.seq ?_))
  -- mq: region
  refine CW.ownNil 5 1 ?_
  refine CW.region ?_
  refine RW.assign rfl rfl ?_
  refine RW.nil (EX.seq (CW.seq (CW.region ?_)))
  refine RW.assign rfl rfl ?_
  refine RW.nil (EX.seq (CW.seq (CW.seq (CW.region ?_))))
  refine RW.assign rfl rfl ?_
  refine RW.nil (EX.seq (CW.block ?_))
  -- mq: loop
  refine CW.loop (ι := Nat × Value × List UInt8 × Bool) (fun t => [(0, .string (bs s)), (4, t.2.1), (5, .bool t.2.2.2), (6, .int .i64 (t.1 : Int))]) (fun t => SH w [] [own 5 1 t.2.1 t.2.2.1.length (EU8.all t.2.2.1)]) (fun t => t.1 ≤ s.length ∧ t.2.2.1.length ≤ t.1 ∧ takeL s = (t.2.2.1 ++ (takeL (s.drop t.1)).1, t.2.2.2 && (takeL (s.drop t.1)).2)) (fun t => s.length - t.1) ?_ ?_
  · exact fun w' hw' => ⟨(0, .slice none 0 0, [], true), ⟨Nat.zero_le _, Nat.zero_le _, by simp⟩, (by repeat (first | exact Sub.nil | refine Sub.cons (by rfl) ?_)), hw'⟩
  · rintro ⟨i, v, O, al⟩ ⟨hi, hO, hspec⟩
    dsimp only at hi hO hspec ⊢
    refine CW.seq (CW.seq (CW.region ?_))
    refine RW.move rfl rfl ?_
    refine RW.move rfl rfl ?_
    refine RW.lenS Try.underlying9 rfl rfl ?_
    refine RW.lss rfl rfl rfl ?_
    refine RW.nil (EX.seq ?_)
    -- mq: cond
    first | refine CW.condD rfl (fun hlt => ?_) (fun hlt => ?_) | refine CW.cond rfl (fun hlt => ?_) (fun hlt => ?_)
    · skip
      obtain ⟨c, hcx⟩ : ∃ c, s[i]? = some c := ⟨s[i]'(by omega), List.getElem?_eq_getElem _⟩
      have hd : s.drop i = c :: s.drop (i + 1) := by rw [List.drop_eq_getElem_cons (by omega), (List.getElem?_eq_some_iff.1 hcx).2]
      have hsnoc : ∀ x : UInt8, EU8.all (O ++ [x]) = EU8.all O ++ EU8.enc x := fun x => Enc.all_snoc EU8 O x
      rw [hd] at hspec
      refine CW.skip (EX.seq (CW.seq (CW.block (CW.seq (CW.seq (CW.region ?_))))))
      refine RW.move rfl rfl ?_
      refine RW.move rfl rfl ?_
      refine RW.ixStr (q := i) Try.underlying9 rfl rfl rfl (by omega) hcx ?_
      refine RW.neqI rfl rfl rfl ?_
      refine RW.nil (EX.seq ?_)
      -- mq: cond
      first | refine CW.condD rfl (fun h18 => ?_) (fun h18 => ?_) | refine CW.cond rfl (fun h18 => ?_) (fun h18 => ?_)
      · skip
        have hc37 : c ≠ 37 := fun e => h18 (by rw [e]; rfl)
        refine CW.seq (CW.region ?_)
        refine RW.move rfl rfl ?_
        refine RW.move rfl rfl ?_
        refine RW.move rfl rfl ?_
        refine RW.ixStr (q := i) Try.underlying9 rfl rfl rfl (by omega) hcx ?_
        refine RW.buildSlc sl38 rfl rfl rfl rfl (fun g23 hg23 hf23 => ?_)
        refine RW.append1 sl38 rfl rfl rfl (by first | exact Rem.head | exact Rem.tail Rem.head | exact Rem.tail (Rem.tail Rem.head) | exact Rem.tail (Rem.tail (Rem.tail Rem.head)) | exact Rem.tail (Rem.tail (Rem.tail (Rem.tail Rem.head))) | exact Rem.tail (Rem.tail (Rem.tail (Rem.tail (Rem.tail Rem.head)))) | exact Rem.tail (Rem.tail (Rem.tail (Rem.tail (Rem.tail (Rem.tail Rem.head)))))) (fun _ => by first | exact Upd.head | exact Upd.tail Upd.head | exact Upd.tail (Upd.tail Upd.head) | exact Upd.tail (Upd.tail (Upd.tail Upd.head)) | exact Upd.tail (Upd.tail (Upd.tail (Upd.tail Upd.head))) | exact Upd.tail (Upd.tail (Upd.tail (Upd.tail (Upd.tail Upd.head)))) | exact Upd.tail (Upd.tail (Upd.tail (Upd.tail (Upd.tail (Upd.tail Upd.head)))))) rfl (by repeat (first | exact Ones.nil | exact Enc.ones _ _ | refine Ones.cons rfl ?_)) (by simp only [maxLen]; omega) (by omega) (fun v24 hv24 => ?_)
        refine RW.assign rfl rfl ?_
        refine RW.nil (EX.seq (CW.exit (EX.seqE (EX.bkE (EX.seq (CW.region ?_))))))
        refine RW.move rfl rfl ?_
        refine RW.add rfl rfl rfl (wrap64 (by omega) (by omega)) ?_
        refine RW.assign rfl rfl ?_
        refine RW.nil ?_
        -- mq: loopend
        rw [takeL_cons hc37] at hspec
        refine EX.lpN (i + 1, v24, O ++ [c], al) ⟨by dsimp only; omega, by simp; omega, by rw [hspec]; simp⟩ (by dsimp only; omega) (by repeat (first | exact Sub.nil | refine Sub.cons (by rfl) ?_)) (fun w' hw' => ?_)
        dsimp only
        rw [hsnoc, List.length_append]
        exact hw'
      · skip
        have hc37 : c = 37 := UInt8.toNat_inj.1 (by have : (37 : UInt8).toNat = 37 := rfl; omega)
        subst hc37
        refine CW.skip (EX.seq (CW.seq (CW.seq ?_)))
        -- mq: region
        by_cases hh : i + 2 < s.length
        · skip
          obtain ⟨a, ha⟩ : ∃ a, s[i + 1]? = some a := ⟨s[i + 1]'(by omega), List.getElem?_eq_getElem _⟩
          obtain ⟨b, hb⟩ : ∃ b, s[i + 2]? = some b := ⟨s[i + 2]'(by omega), List.getElem?_eq_getElem _⟩
          have hga : s.getD (i + 1) 0 = a := by simp [List.getD, ha]
          have hgb : s.getD (i + 2) 0 = b := by simp [List.getD, hb]
          have hd1 : s.drop (i + 1) = a :: b :: s.drop (i + 3) := by rw [List.drop_eq_getElem_cons (by omega), (List.getElem?_eq_some_iff.1 ha).2, List.drop_eq_getElem_cons (by omega), (List.getElem?_eq_some_iff.1 hb).2]
          refine CW.region ?_
          refine RW.move rfl rfl ?_
          refine RW.move rfl rfl ?_
          -- mq: at
          refine RW.call rfl ca31 rfl (fun w' _ => code_c w' s i hs (by omega)) ?_
          rw [codeV, if_pos hh, hga, hgb]
          refine RW.move rfl rfl ?_
          refine RW.extract rfl rfl rfl ?_
          refine RW.extract rfl rfl rfl ?_
          refine RW.assign rfl rfl ?_
          refine RW.assign rfl rfl ?_
          refine RW.nil (EX.seq (CW.seq (CW.region ?_)))
          refine RW.move rfl rfl ?_
          refine RW.nil (EX.seq ?_)
          -- mq: cond
          first | refine CW.condD rfl (fun h31 => ?_) (fun h31 => ?_) | refine CW.cond rfl (fun h31 => ?_) (fun h31 => ?_)
          · skip
            simp only [Bool.and_eq_true, decide_eq_true_eq] at h31
            rw [hd1, takeL_hex h31.1 h31.2] at hspec
            rw [codeI_two h31.1 h31.2]
            refine CW.seq (CW.region ?_)
            refine RW.move rfl rfl ?_
            refine RW.move rfl rfl ?_
            refine RW.buildSlc sl38 rfl rfl rfl rfl (fun g34 hg34 hf34 => ?_)
            refine RW.append1 sl38 rfl rfl rfl (by first | exact Rem.head | exact Rem.tail Rem.head | exact Rem.tail (Rem.tail Rem.head) | exact Rem.tail (Rem.tail (Rem.tail Rem.head)) | exact Rem.tail (Rem.tail (Rem.tail (Rem.tail Rem.head))) | exact Rem.tail (Rem.tail (Rem.tail (Rem.tail (Rem.tail Rem.head)))) | exact Rem.tail (Rem.tail (Rem.tail (Rem.tail (Rem.tail (Rem.tail Rem.head)))))) (fun _ => by first | exact Upd.head | exact Upd.tail Upd.head | exact Upd.tail (Upd.tail Upd.head) | exact Upd.tail (Upd.tail (Upd.tail Upd.head)) | exact Upd.tail (Upd.tail (Upd.tail (Upd.tail Upd.head))) | exact Upd.tail (Upd.tail (Upd.tail (Upd.tail (Upd.tail Upd.head)))) | exact Upd.tail (Upd.tail (Upd.tail (Upd.tail (Upd.tail (Upd.tail Upd.head)))))) rfl (by repeat (first | exact Ones.nil | exact Enc.ones _ _ | refine Ones.cons rfl ?_)) (by simp only [maxLen]; omega) (by omega) (fun v35 hv35 => ?_)
            refine RW.assign rfl rfl ?_
            refine RW.nil (EX.seq (CW.seq (CW.region ?_)))
            refine RW.move rfl rfl ?_
            refine RW.add rfl rfl rfl (wrap64 (by omega) (by omega)) ?_
            refine RW.assign rfl rfl ?_
            refine RW.nil (EX.seq (CW.exit (EX.seqE (EX.bkE (EX.seq (CW.region ?_))))))
            refine RW.move rfl rfl ?_
            refine RW.add rfl rfl rfl (wrap64 (by omega) (by omega)) ?_
            refine RW.assign rfl rfl ?_
            refine RW.nil ?_
            -- mq: loopend
            refine EX.lpN (i + 3, v35, O ++ [twoU a b], al) ⟨by dsimp only; omega, by simp; omega, by rw [hspec]; simp⟩ (by dsimp only; omega) (Sub.cons (by rfl) (Sub.cons (by rfl) (Sub.cons (by rfl) (Sub.cons (by simp [look]; omega) Sub.nil)))) (fun w' hw' => ?_)
            dsimp only
            rw [hsnoc, List.length_append]
            exact hw'
          · skip
            simp only [Bool.and_eq_false_iff, decide_eq_false_iff_not] at h31
            have hbad : ∀ x y u, s.drop (i + 1) = x :: y :: u → ¬ (0 ≤ hexI x ∧ 0 ≤ hexI y) := fun x y u e => by
              rw [hd1] at e
              simp only [List.cons.injEq] at e
              obtain ⟨rfl, rfl, _⟩ := e
              omega
            rw [takeL_bad hbad] at hspec
            refine CW.skip (EX.seq (CW.seq (CW.region ?_)))
            refine RW.move rfl rfl ?_
            refine RW.buildSlc sl38 rfl rfl rfl rfl (fun g39 hg39 hf39 => ?_)
            refine RW.append1 sl38 rfl rfl rfl (by first | exact Rem.head | exact Rem.tail Rem.head | exact Rem.tail (Rem.tail Rem.head) | exact Rem.tail (Rem.tail (Rem.tail Rem.head)) | exact Rem.tail (Rem.tail (Rem.tail (Rem.tail Rem.head))) | exact Rem.tail (Rem.tail (Rem.tail (Rem.tail (Rem.tail Rem.head)))) | exact Rem.tail (Rem.tail (Rem.tail (Rem.tail (Rem.tail (Rem.tail Rem.head)))))) (fun _ => by first | exact Upd.head | exact Upd.tail Upd.head | exact Upd.tail (Upd.tail Upd.head) | exact Upd.tail (Upd.tail (Upd.tail Upd.head)) | exact Upd.tail (Upd.tail (Upd.tail (Upd.tail Upd.head))) | exact Upd.tail (Upd.tail (Upd.tail (Upd.tail (Upd.tail Upd.head)))) | exact Upd.tail (Upd.tail (Upd.tail (Upd.tail (Upd.tail (Upd.tail Upd.head)))))) rfl (by repeat (first | exact Ones.nil | exact Enc.ones _ _ | refine Ones.cons rfl ?_)) (by simp only [maxLen]; omega) (by omega) (fun v40 hv40 => ?_)
            refine RW.assign rfl rfl ?_
            refine RW.nil (EX.seq (CW.region ?_))
            refine RW.assign rfl rfl ?_
            refine RW.nil (EX.bkN (EX.seq (CW.region ?_)))
            refine RW.move rfl rfl ?_
            refine RW.add rfl rfl rfl (wrap64 (by omega) (by omega)) ?_
            refine RW.assign rfl rfl ?_
            refine RW.nil ?_
            -- mq: loopend
            refine EX.lpN (i + 1, v40, O ++ [37], false) ⟨by dsimp only; omega, by simp; omega, by rw [hspec]; simp⟩ (by dsimp only; omega) (by repeat (first | exact Sub.nil | refine Sub.cons (by rfl) ?_)) (fun w' hw' => ?_)
            dsimp only
            rw [hsnoc, List.length_append]
            exact hw'
        · skip
          have hbad : ∀ x y u, s.drop (i + 1) = x :: y :: u → ¬ (0 ≤ hexI x ∧ 0 ≤ hexI y) := fun x y u e => by
            have := congrArg List.length e
            simp at this
            omega
          rw [takeL_bad hbad] at hspec
          refine CW.region ?_
          refine RW.move rfl rfl ?_
          refine RW.move rfl rfl ?_
          -- mq: at
          refine RW.call rfl ca31 rfl (fun w' _ => code_c w' s i hs (by omega)) ?_
          rw [codeV, if_neg hh]
          refine RW.move rfl rfl ?_
          refine RW.extract rfl rfl rfl ?_
          refine RW.extract rfl rfl rfl ?_
          refine RW.assign rfl rfl ?_
          refine RW.assign rfl rfl ?_
          refine RW.nil (EX.seq (CW.seq (CW.region ?_)))
          refine RW.move rfl rfl ?_
          refine RW.nil (EX.seq ?_)
          -- mq: cond
          refine CW.condF rfl (rfl) ?_
          refine CW.skip (EX.seq (CW.seq (CW.region ?_)))
          refine RW.move rfl rfl ?_
          refine RW.buildSlc sl38 rfl rfl rfl rfl (fun g39 hg39 hf39 => ?_)
          refine RW.append1 sl38 rfl rfl rfl (by first | exact Rem.head | exact Rem.tail Rem.head | exact Rem.tail (Rem.tail Rem.head) | exact Rem.tail (Rem.tail (Rem.tail Rem.head)) | exact Rem.tail (Rem.tail (Rem.tail (Rem.tail Rem.head))) | exact Rem.tail (Rem.tail (Rem.tail (Rem.tail (Rem.tail Rem.head)))) | exact Rem.tail (Rem.tail (Rem.tail (Rem.tail (Rem.tail (Rem.tail Rem.head)))))) (fun _ => by first | exact Upd.head | exact Upd.tail Upd.head | exact Upd.tail (Upd.tail Upd.head) | exact Upd.tail (Upd.tail (Upd.tail Upd.head)) | exact Upd.tail (Upd.tail (Upd.tail (Upd.tail Upd.head))) | exact Upd.tail (Upd.tail (Upd.tail (Upd.tail (Upd.tail Upd.head)))) | exact Upd.tail (Upd.tail (Upd.tail (Upd.tail (Upd.tail (Upd.tail Upd.head)))))) rfl (by repeat (first | exact Ones.nil | exact Enc.ones _ _ | refine Ones.cons rfl ?_)) (by simp only [maxLen]; omega) (by omega) (fun v40 hv40 => ?_)
          refine RW.assign rfl rfl ?_
          refine RW.nil (EX.seq (CW.region ?_))
          refine RW.assign rfl rfl ?_
          refine RW.nil (EX.bkN (EX.seq (CW.region ?_)))
          refine RW.move rfl rfl ?_
          refine RW.add rfl rfl rfl (wrap64 (by omega) (by omega)) ?_
          refine RW.assign rfl rfl ?_
          refine RW.nil ?_
          -- mq: loopend
          refine EX.lpN (i + 1, v40, O ++ [37], false) ⟨by dsimp only; omega, by simp; omega, by rw [hspec]; simp⟩ (by dsimp only; omega) (by repeat (first | exact Sub.nil | refine Sub.cons (by rfl) ?_)) (fun w' hw' => ?_)
          dsimp only
          rw [hsnoc, List.length_append]
          exact hw'
    · skip
      have hil : i = s.length := by omega
      refine CW.formOwn (v := v) Has.head (fun A4 c4 hv4 hcap4 hmax4 hlen4 hg4 => ?_)
      subst hv4
      refine CW.exit (EX.seqE (EX.lpE (EX.bkE (EX.seq (CW.seq (CW.region ?_))))))
      refine RW.move rfl rfl ?_
      -- mq: op 1: ('Op.convert', '38', '9', ('Operand.tmp', '41')) -> slot 42 ("pct.go:82")
      refine RW.bytesStr (s := O) (F := fun k => (Value.slice A4 O.length c4).ownBlock = some k) Try.underlying38 Try.underlying5 Try.underlying9 rfl rfl (fun w' hw' => ?_) ?_
      · obtain ⟨A6, c6, he6, hrd6⟩ := Rd.of_own (E := EU8) (hw'.has Has.head) rfl
        cases he6
        exact hrd6
      refine RW.move rfl rfl ?_
      refine RW.assign rfl rfl ?_
      refine RW.assign rfl rfl ?_
      refine RW.nil (EX.seq (CW.ret ?_))
      refine EX.fin2 Try.results22 rfl rfl (fun wz hw => ?_)
      -- mq: done
      subst hil
      rw [List.drop_length] at hspec
      refine ⟨?_, hw.ext⟩
      rw [hspec]
      simp [takeL]
theorem Take_c (w : World) (s : List UInt8) (hs : s.length ≤ 1000000) :
    Calls Try.prog 12 [.string (bs s)].toArray w (fun e w' => e = .returned (.string (bs (takeL s).1)) ∧ Ext [] w w') := by
  refine calls (n := 11) Try.func12 rfl Try.ntmps12 rfl ?_
  refine CW.sub (H' := SH w [] []) ?_ (Sub.refl _) (fun x hx => SH.start' _ _ hx)
  refine CW.seq (CW.region ?_)
  refine RW.assign rfl rfl ?_
  refine RW.nil (EX.seq (CW.seq (CW.region ?_)))
  refine RW.move rfl rfl ?_
  -- mq: op 1: ('Op.call', ('Call.mk', ('Callee.value', ('Operand.func', '22')), ('arr', ('Operand.tmp', '6')), ('arr', '9'))) -> slot 7 ("pct.go:87")
  refine RW.call rfl ca22 rfl (fun w' _ => take_c w' s hs) ?_
  refine RW.move rfl rfl ?_
  refine RW.extract rfl rfl rfl ?_
  refine RW.extract rfl rfl rfl ?_
  refine RW.assign rfl rfl ?_
  refine RW.assign rfl rfl ?_
  refine RW.nil (EX.seq (CW.seq (CW.region ?_)))
  refine RW.move rfl rfl ?_
  refine RW.assign rfl rfl ?_
  refine RW.nil (EX.seq (CW.ret ?_))
  refine EX.fin1 Try.results12 rfl (fun wz hw => ?_)
  -- mq: done
  exact ⟨rfl, hw.ext⟩
def strictV (s : List UInt8) : Value := if (takeL s).2 = true then .tuple #[.string (bs (takeL s).1), .bool true] else .tuple #[.string (bs []), .bool false]
theorem Strict_c (w : World) (s : List UInt8) (hs : s.length ≤ 1000000) :
    Calls Try.prog 13 [.string (bs s)].toArray w (fun e w' => e = .returned (strictV s) ∧ Ext [] w w') := by
  refine calls (n := 14) Try.func13 rfl Try.ntmps13 rfl ?_
  refine CW.sub (H' := SH w [] []) ?_ (Sub.refl _) (fun x hx => SH.start' _ _ hx)
  refine CW.seq (CW.region ?_)
  refine RW.assign rfl rfl ?_
  refine RW.assign rfl rfl ?_
  refine RW.nil (EX.seq (CW.seq (CW.region ?_)))
  refine RW.move rfl rfl ?_
  -- mq: op 1: ('Op.call', ('Call.mk', ('Callee.value', ('Operand.func', '22')), ('arr', ('Operand.tmp', '7')), ('arr', '9'))) -> slot 8 ("pct.go:93")
  refine RW.call rfl ca22 rfl (fun w' _ => take_c w' s hs) ?_
  refine RW.move rfl rfl ?_
  refine RW.extract rfl rfl rfl ?_
  refine RW.extract rfl rfl rfl ?_
  refine RW.assign rfl rfl ?_
  refine RW.assign rfl rfl ?_
  refine RW.nil (EX.seq (CW.seq (CW.seq (CW.region ?_))))
  refine RW.move rfl rfl ?_
  refine RW.not_ rfl rfl ?_
  refine RW.nil (EX.seq ?_)
  -- mq: cond
  first | refine CW.condD rfl (fun h1 => ?_) (fun h1 => ?_) | refine CW.cond rfl (fun h1 => ?_) (fun h1 => ?_)
  · skip
    refine CW.seq (CW.region ?_)
    refine RW.assign rfl rfl ?_
    refine RW.assign rfl rfl ?_
    refine RW.nil (EX.seq (CW.ret (EX.seqR ?_)))
    refine EX.fin2 Try.results13 rfl rfl (fun wz hw => ?_)
    -- mq: done
    exact ⟨by rw [strictV, if_neg (by simpa using h1)], hw.ext⟩
  · skip
    refine CW.skip (EX.seq (CW.seq (CW.region ?_)))
    refine RW.move rfl rfl ?_
    refine RW.assign rfl rfl ?_
    refine RW.assign rfl rfl ?_
    refine RW.nil (EX.seq (CW.ret ?_))
    refine EX.fin2 Try.results13 rfl rfl (fun wz hw => ?_)
    -- mq: done
    exact ⟨by rw [strictV, if_pos (by simpa using h1)], hw.ext⟩
end Go.Proofs.Ytkabehgjgicckaa.Mq
