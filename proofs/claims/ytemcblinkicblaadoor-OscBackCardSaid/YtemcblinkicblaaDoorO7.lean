/- osc: the reference's Field, Read, Write -/
import Derived.Test.YtemcblinkicblaaDoorO6
import Derived.Test.YtemcblinkicblaaDoorDig
namespace Go.Proofs.YtemcblinkicblaaDoor.Mq
open Go Go.RowKit Go.Proofs

theorem full_mid {s : List UInt8} {f k : Nat} (hfk : f ≤ k) (hk : s[k]? = some 59) (hno : ∀ j, f ≤ j → j < k → s[j]? ≠ some 59) : fullP 59 (s.drop f) = (s.take k).drop f :: fullP 59 (s.drop (k + 1)) := by
  have hlt := (List.getElem?_eq_some_iff.1 hk).1
  have e : s.drop f = (s.take k).drop f ++ 59 :: s.drop (k + 1) := by
    have h1 : s = s.take k ++ 59 :: s.drop (k + 1) := by
      conv => lhs; rw [← List.take_append_drop k s, List.drop_eq_getElem_cons hlt, (List.getElem?_eq_some_iff.1 hk).2]
    conv => lhs; rw [h1]
    rw [List.drop_append_of_le_length (by rw [List.length_take]; omega)]
  have hp : (59 : UInt8) ∉ (s.take k).drop f := by
    intro hm
    obtain ⟨j, hj⟩ := List.mem_iff_getElem?.1 hm
    rw [List.getElem?_drop, List.getElem?_take] at hj
    split at hj
    · exact hno (f + j) (by omega) (by omega) hj
    · cases hj
  rw [e, fullP_cut hp]
theorem full_end {s : List UInt8} {f : Nat} (hno : ∀ j, f ≤ j → j < s.length → s[j]? ≠ some 59) : fullP 59 (s.drop f) = [s.drop f] := by
  refine fullP_out fun hm => ?_
  obtain ⟨j, hj⟩ := List.mem_iff_getElem?.1 hm
  rw [List.getElem?_drop] at hj
  exact hno (f + j) (by omega) (List.getElem?_eq_some_iff.1 hj).1 hj
theorem drop_head {α : Type} {L : List α} {n : Nat} {x : α} {r : List α} (h : L.drop n = x :: r) : L[n]? = some x ∧ L.drop (n + 1) = r ∧ n < L.length := by
  have h0 : (L.drop n)[0]? = some x := by rw [h]; rfl
  rw [List.getElem?_drop] at h0
  refine ⟨h0, ?_, (List.getElem?_eq_some_iff.1 h0).1⟩
  rw [← List.drop_drop, h]; rfl
theorem fieldV_at {L : List (List UInt8)} {n : Nat} {x : List UInt8} (h : L[n]? = some x) : fieldV L n = .tuple #[.string (bs x), .bool true] := by
  rw [fieldV, decide_eq_true (List.getElem?_eq_some_iff.1 h).1, List.getD_eq_getElem?_getD, h]; rfl
theorem Field_c (w : World) (s : List UInt8) (hs : s.length ≤ 1000000) (i : Nat) :
    Calls Tryd.prog 26 [.string (bs s), .int .i64 (i : Int)].toArray w (fun e w' => e = .returned (fieldV (fullP 59 s) i) ∧ Ext [] w w') := by
  refine calls (n := 36) Tryd.func26 rfl Tryd.ntmps26 rfl ?_
  refine CW.sub (H' := SH w [] []) ?_ (Sub.refl _) (fun x hx => SH.start' _ _ hx)
  refine CW.seq (CW.region ?_)
  refine RW.assign rfl rfl ?_
  refine RW.assign rfl rfl ?_
  refine RW.nil (EX.seq (CW.seq (CW.region ?_)))
  refine RW.assign rfl rfl ?_
  refine RW.nil (EX.seq (CW.seq (CW.region ?_)))
  refine RW.assign rfl rfl ?_
  refine RW.nil (EX.seq (CW.seq (CW.seq (CW.region ?_))))
  refine RW.assign rfl rfl ?_
  refine RW.nil (EX.seq (CW.block ?_))
  -- mq: loop
  refine CW.loop (ι := Nat × Nat × Nat) (fun t => [(0, .string (bs s)), (1, .int .i64 (i : Int)), (6, .int .i64 (t.2.1 : Int)), (7, .int .i64 (t.2.2 : Int)), (8, .int .i64 (t.1 : Int))]) (fun _ => SH w [] []) (fun t => t.2.1 ≤ i ∧ t.2.1 ≤ t.1 ∧ ((t.1 ≤ s.length ∧ t.2.2 ≤ t.1 ∧ (∀ j, t.2.2 ≤ j → j < t.1 → s[j]? ≠ some 59) ∧ (fullP 59 s).drop t.2.1 = fullP 59 (s.drop t.2.2)) ∨ (t.1 = s.length + 1 ∧ t.2.1 = (fullP 59 s).length))) (fun t => s.length + 1 - t.1) ?_ ?_
  · exact fun w' hw' => ⟨(0, 0, 0), ⟨Nat.zero_le _, Nat.le_refl _, .inl ⟨Nat.zero_le _, Nat.le_refl _, fun j _ hj => absurd hj (Nat.not_lt_zero _), rfl⟩⟩, (by repeat (first | exact Sub.nil | refine Sub.cons (by rfl) ?_)), hw'⟩
  · rintro ⟨k, n, f⟩ ⟨hni, hnk, hst⟩
    dsimp only at hni hnk hst ⊢
    have hk1 : k ≤ s.length + 1 := by rcases hst with h | h <;> omega
    refine CW.seq (CW.seq (CW.region ?_))
    refine RW.move rfl rfl ?_
    refine RW.move rfl rfl ?_
    refine RW.lenS Tryd.underlying9 rfl rfl ?_
    refine RW.leq rfl rfl rfl ?_
    refine RW.nil (EX.seq ?_)
    -- mq: cond
    first | refine CW.condD rfl (fun hle => ?_) (fun hle => ?_) | refine CW.cond rfl (fun hle => ?_) (fun hle => ?_)
    · skip
      obtain ⟨-, hfk, hno, hd⟩ : k ≤ s.length ∧ f ≤ k ∧ (∀ j, f ≤ j → j < k → s[j]? ≠ some 59) ∧ (fullP 59 s).drop n = fullP 59 (s.drop f) := by
        rcases hst with h | h
        · exact h
        · omega
      refine CW.skip (EX.seq (CW.seq (CW.block (CW.seq (CW.region ?_)))))
      refine RW.move rfl rfl ?_
      refine RW.move rfl rfl ?_
      refine RW.lenS Tryd.underlying9 rfl rfl ?_
      refine RW.eqlI rfl rfl rfl ?_
      refine RW.move rfl rfl ?_
      -- mq: guard slot 19
      refine RW.casesB 19 rfl (fun hkl => ?_) (fun hkl => ?_)
      · skip
        have hklp := of_decide_eq_true hkl
        obtain rfl : k = s.length := by omega
        rw [full_end hno] at hd
        obtain ⟨hx, hdn, hlt⟩ := drop_head hd
        have hll := congrArg List.length hdn
        rw [List.length_drop] at hll
        refine RW.guardF rfl rfl rfl hkl ?_
        refine RW.guardF rfl rfl rfl hkl ?_
        refine RW.guardF rfl rfl rfl hkl ?_
        refine RW.guardF rfl rfl rfl hkl ?_
        refine RW.pickB rfl rfl hkl rfl ?_
        refine RW.nil (EX.seq ?_)
        -- mq: cond
        refine CW.condT rfl (rfl) ?_
        refine CW.seq (CW.seq (CW.region ?_))
        refine RW.move rfl rfl ?_
        refine RW.move rfl rfl ?_
        refine RW.eqlI rfl rfl rfl ?_
        refine RW.nil (EX.seq ?_)
        -- mq: cond
        first | refine CW.condD rfl (fun hn => ?_) (fun hn => ?_) | refine CW.cond rfl (fun hn => ?_) (fun hn => ?_)
        · skip
          obtain rfl : n = i := by omega
          refine CW.seq (CW.region ?_)
          refine RW.move rfl rfl ?_
          refine RW.move rfl rfl ?_
          refine RW.move rfl rfl ?_
          refine RW.sliceStrLH f s.length Tryd.underlying9 rfl rfl rfl rfl (by first | rfl | omega) (by first | rfl | omega) (by omega) (by first | omega | (simp; done) | (simp; omega)) ?_
          refine RW.assign rfl rfl ?_
          refine RW.assign rfl rfl ?_
          refine RW.nil (EX.seq (CW.ret (EX.seqR (EX.bkR (EX.seqR (EX.lpR (EX.bkR (EX.seqR ?_))))))))
          refine EX.fin2 Tryd.results26 rfl rfl (fun wz hw => ?_)
          -- mq: done
          exact ⟨by rw [fieldV_at hx, List.take_length], hw.ext⟩
        · skip
          refine CW.skip (EX.seq (CW.seq (CW.region ?_)))
          refine RW.move rfl rfl ?_
          refine RW.add rfl rfl rfl (wrap64 (by omega) (by omega)) ?_
          refine RW.assign rfl rfl ?_
          refine RW.nil (EX.seq (CW.region ?_))
          refine RW.move rfl rfl ?_
          refine RW.add rfl rfl rfl (wrap64 (by omega) (by omega)) ?_
          refine RW.assign rfl rfl ?_
          refine RW.nil (EX.bkN (EX.seq (CW.region ?_)))
          refine RW.move rfl rfl ?_
          refine RW.add rfl rfl rfl (wrap64 (by omega) (by omega)) ?_
          refine RW.assign rfl rfl ?_
          refine RW.nil ?_
          -- mq: loopend
          exact EX.lpN (s.length + 1, n + 1, s.length + 1) ⟨by dsimp only; omega, by dsimp only; omega, .inr ⟨rfl, by dsimp only; simp at hll; omega⟩⟩ (by dsimp only; omega) (by repeat (first | exact Sub.nil | refine Sub.cons (by rfl) ?_)) (fun w' hw' => hw')
      · skip
        have hklp := of_decide_eq_false hkl
        obtain ⟨c, hc⟩ : ∃ c, s[k]? = some c := ⟨s[k]'(by omega), List.getElem?_eq_getElem _⟩
        have hc8 := UInt8.toNat_lt c
        refine RW.guardT rfl rfl hkl ?_
        refine RW.move rfl rfl ?_
        refine RW.guardT rfl rfl hkl ?_
        refine RW.move rfl rfl ?_
        refine RW.guardT rfl rfl hkl ?_
        refine RW.ixStr (q := k) Tryd.underlying9 rfl rfl rfl (by omega) hc ?_
        refine RW.guardT rfl rfl hkl ?_
        refine RW.eqlI rfl rfl rfl ?_
        refine RW.pickC rfl rfl hkl rfl ?_
        refine RW.nil (EX.seq ?_)
        -- mq: cond
        first | refine CW.condD rfl (fun h59 => ?_) (fun h59 => ?_) | refine CW.cond rfl (fun h59 => ?_) (fun h59 => ?_)
        · skip
          obtain rfl : c = 59 := (u8_lit (k := 59) (by decide)).1 h59
          rw [full_mid hfk hc hno] at hd
          obtain ⟨hx, hdn, hlt⟩ := drop_head hd
          refine CW.seq (CW.seq (CW.region ?_))
          refine RW.move rfl rfl ?_
          refine RW.move rfl rfl ?_
          refine RW.eqlI rfl rfl rfl ?_
          refine RW.nil (EX.seq ?_)
          -- mq: cond
          first | refine CW.condD rfl (fun hn => ?_) (fun hn => ?_) | refine CW.cond rfl (fun hn => ?_) (fun hn => ?_)
          · skip
            obtain rfl : n = i := by omega
            refine CW.seq (CW.region ?_)
            refine RW.move rfl rfl ?_
            refine RW.move rfl rfl ?_
            refine RW.move rfl rfl ?_
            refine RW.sliceStrLH f k Tryd.underlying9 rfl rfl rfl rfl (by first | rfl | omega) (by first | rfl | omega) (by omega) (by first | omega | (simp; done) | (simp; omega)) ?_
            refine RW.assign rfl rfl ?_
            refine RW.assign rfl rfl ?_
            refine RW.nil (EX.seq (CW.ret (EX.seqR (EX.bkR (EX.seqR (EX.lpR (EX.bkR (EX.seqR ?_))))))))
            refine EX.fin2 Tryd.results26 rfl rfl (fun wz hw => ?_)
            -- mq: done
            exact ⟨by rw [fieldV_at hx], hw.ext⟩
          · skip
            refine CW.skip (EX.seq (CW.seq (CW.region ?_)))
            refine RW.move rfl rfl ?_
            refine RW.add rfl rfl rfl (wrap64 (by omega) (by omega)) ?_
            refine RW.assign rfl rfl ?_
            refine RW.nil (EX.seq (CW.region ?_))
            refine RW.move rfl rfl ?_
            refine RW.add rfl rfl rfl (wrap64 (by omega) (by omega)) ?_
            refine RW.assign rfl rfl ?_
            refine RW.nil (EX.bkN (EX.seq (CW.region ?_)))
            refine RW.move rfl rfl ?_
            refine RW.add rfl rfl rfl (wrap64 (by omega) (by omega)) ?_
            refine RW.assign rfl rfl ?_
            refine RW.nil ?_
            -- mq: loopend
            exact EX.lpN (k + 1, n + 1, k + 1) ⟨by dsimp only; omega, by dsimp only; omega, .inl ⟨by dsimp only; omega, Nat.le_refl _, fun j h1 h2 => by dsimp only at h1 h2; omega, hdn⟩⟩ (by dsimp only; omega) (by repeat (first | exact Sub.nil | refine Sub.cons (by rfl) ?_)) (fun w' hw' => hw')
        · skip
          refine CW.skip (EX.bkN (EX.seq (CW.region ?_)))
          refine RW.move rfl rfl ?_
          refine RW.add rfl rfl rfl (wrap64 (by omega) (by omega)) ?_
          refine RW.assign rfl rfl ?_
          refine RW.nil ?_
          -- mq: loopend
          refine EX.lpN (k + 1, n, f) ⟨by dsimp only; omega, by dsimp only; omega, .inl ⟨by dsimp only; omega, by dsimp only; omega, fun j h1 h2 => ?_, hd⟩⟩ (by dsimp only; omega) (by repeat (first | exact Sub.nil | refine Sub.cons (by rfl) ?_)) (fun w' hw' => hw')
          rcases Nat.lt_succ_iff_lt_or_eq.1 h2 with h | rfl
          · exact hno j h1 h
          · rw [hc]; intro e; exact h59 (by rw [Option.some.inj e]; rfl)
    · skip
      have hn : n = (fullP 59 s).length := by rcases hst with h | h <;> omega
      refine CW.exit (EX.seqE (EX.lpE (EX.bkE (EX.seq (CW.seq (CW.region ?_))))))
      refine RW.assign rfl rfl ?_
      refine RW.assign rfl rfl ?_
      refine RW.nil (EX.seq (CW.ret ?_))
      refine EX.fin2 Tryd.results26 rfl rfl (fun wz hw => ?_)
      -- mq: done
      refine ⟨?_, hw.ext⟩
      rw [fieldV, decide_eq_false (by omega), List.getD_eq_getElem?_getD, List.getElem?_eq_none (by omega)]; rfl
theorem rest_drop {s : List UInt8} (h : 59 ∈ s) : (oneF s).length + 1 ≤ s.length ∧ s.drop ((oneF s).length + 1) = restF s := by
  rcases ib_cases s 59 with ⟨hno, -⟩ | ⟨pre, post, rfl, hp, -⟩
  · exact absurd h hno
  · have e1 : oneF (pre ++ 59 :: post) = pre := by unfold oneF; rw [fullP_cut hp]; rfl
    rw [e1]
    refine ⟨by simp, ?_⟩
    unfold restF
    rw [if_pos h, (cut_pre hp).2, show pre ++ 59 :: post = (pre ++ [59]) ++ post by simp]
    exact List.drop_left' (by simp)
theorem is_iff (s : List UInt8) : 1 < (fullP 59 s).length ↔ 59 ∈ s := by
  rcases ib_cases s 59 with ⟨hno, -⟩ | ⟨pre, post, rfl, hp, -⟩
  · rw [fullP_out hno]
    exact ⟨fun h => absurd h (by simp), fun h => absurd h hno⟩
  · rw [fullP_cut hp]
    have := List.length_pos_iff.2 (fullP_ne 59 post)
    exact ⟨fun _ => by simp, fun _ => by rw [List.length_cons]; omega⟩
def abcd : List UInt8 := [65, 66, 67, 68]
theorem abcd_cut : ∀ k, k < 4 → (abcd.take (k + 1)).drop k = [UInt8.ofNat (65 + k)] := by decide
theorem shell_none {two three : List UInt8} {has : Bool} (h : ∀ j, j < 4 → two ≠ [UInt8.ofNat (65 + j)]) : shellF false two three has = noneS := by
  have h0 : two ≠ [65] := h 0 (by decide)
  have h1 : two ≠ [66] := h 1 (by decide)
  have h2 : two ≠ [67] := h 2 (by decide)
  have h3 : two ≠ [68] := h 3 (by decide)
  unfold shellF
  rw [if_neg h0, if_neg h1, if_neg h2, if_neg h3]
  split
  · rw [if_neg (fun h => by cases h.1)]
  · split
    · rw [if_neg (fun h => by cases h.1)]
    · rfl
theorem shell_full {two three : List UInt8} {has : Bool} (h : ∀ j, j < 4 → two ≠ [UInt8.ofNat (65 + j)]) : shellF true two three has = if two = [69] then (if has = true then textS 5 (unescF three) else noneS) else if two = [80] then (if three.take 4 = cwdL then textS 6 (unescF (three.drop 4)) else noneS) else noneS := by
  have h0 : two ≠ [65] := h 0 (by decide)
  have h1 : two ≠ [66] := h 1 (by decide)
  have h2 : two ≠ [67] := h 2 (by decide)
  have h3 : two ≠ [68] := h 3 (by decide)
  unfold shellF
  rw [if_neg h0, if_neg h1, if_neg h2, if_neg h3]
  simp only [true_and]
theorem shell_abc {full : Bool} {three : List UInt8} {has : Bool} {k : Nat} (hk : k < 4) : shellF full [UInt8.ofNat (65 + k)] three has = if k = 3 ∧ has = true then ⟨4, (codeF three).1, (codeF three).2, []⟩ else kindS (k + 1) := by
  rcases (show k = 0 ∨ k = 1 ∨ k = 2 ∨ k = 3 by omega) with rfl | rfl | rfl | rfl
  · rfl
  · rfl
  · rfl
  · cases has <;> rfl
end Go.Proofs.YtemcblinkicblaaDoor.Mq
