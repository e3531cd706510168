/- tape, dump: the reference's Number, Hex -/
import Derived.Test.YtnkdabjahmjdoaaDoorTd
namespace Go.Proofs.YtnkdabjahmjdoaaDoor.Mq
open Go Go.RowKit Go.Proofs

theorem tdiv_neg (m k : Nat) : (-(m : Int)).tdiv (k : Int) = -((m / k : Nat) : Int) := by rw [Int.neg_tdiv]; rfl
theorem tmod_neg (m k : Nat) : (-(m : Int)).tmod (k : Int) = -((m % k : Nat) : Int) := by rw [Int.neg_tmod]; rfl
theorem dec_two (m : Nat) : (if 10 ≤ m then Lib.decDigits (m / 10) else []) ++ Lib.decDigits (m % 10) = Lib.decDigits m := by
  split
  · rename_i h
    rw [dec_big (u := m) (by omega), dec_small (u := m % 10) (by omega)]
  · rename_i h
    rw [List.nil_append, show m % 10 = m by omega]
theorem refNumber_c (w : World) (n : Int) (h : In64 n) :
    Calls Tryd.prog 26 [.int .i64 n].toArray w (fun e w' => e = .returned (.string (bs (Lib.itoa n))) ∧ Ext [] w w') := by
  unfold In64 at h
  refine calls (n := 21) Tryd.func26 rfl Tryd.ntmps26 rfl ?_
  refine CW.sub (H' := SH w [] []) ?_ (Sub.refl _) (fun x hx => SH.start' _ _ hx)
  refine CW.seq (CW.region ?_)
  refine RW.assign rfl rfl ?_
  refine RW.nil (EX.seq (CW.seq (CW.seq (CW.region ?_))))
  refine RW.move rfl rfl ?_
  refine RW.geq rfl rfl rfl ?_
  refine RW.nil (EX.seq ?_)
  -- mq: cond
  first | refine CW.condD rfl (fun h0 => ?_) (fun h0 => ?_) | refine CW.cond rfl (fun h0 => ?_) (fun h0 => ?_)
  · skip
    obtain ⟨m, rfl⟩ : ∃ m : Nat, n = m := ⟨n.toNat, by omega⟩
    refine CW.seq (CW.region ?_)
    refine RW.move rfl rfl ?_
    refine RW.call rfl ca40 rfl (fun w' _ => refDigits_c w' m (by omega)) ?_
    refine RW.assign rfl rfl ?_
    refine RW.nil (EX.seq (CW.ret (EX.seqR ?_)))
    refine EX.fin1 Tryd.results26 rfl (fun wz hw => ?_)
    -- mq: done
    exact ⟨by rw [Lib.itoa_nonneg], hw.ext⟩
  · skip
    obtain ⟨m, rfl⟩ : ∃ m : Nat, n = -(m : Int) := ⟨n.natAbs, by omega⟩
    have hq : (-(m : Int)).tdiv 10 = -((m / 10 : Nat) : Int) := tdiv_neg m 10
    have hm : (-(m : Int)).tmod 10 = -((m % 10 : Nat) : Int) := tmod_neg m 10
    have hl1 : (Lib.decDigits (m / 10)).length ≤ 21 := dec_len_le (by omega)
    have hl2 : (Lib.decDigits (m % 10)).length ≤ 21 := dec_len_le (by omega)
    have hhl : (if 10 ≤ m then Lib.decDigits (m / 10) else []).length ≤ 21 := by split; exact hl1; simp
    refine CW.skip (EX.seq (CW.seq (CW.region ?_)))
    refine RW.assign rfl rfl ?_
    refine RW.nil (EX.seq (CW.seq ?_))
    -- mq: seq
    refine CW.join ([(0, .int .i64 (-(m : Int))), (3, .string (bs (if 10 ≤ m then Lib.decDigits (m / 10) else [])))]) (SH w [] []) ?_ ?_
    · skip
      refine CW.seq (CW.region ?_)
      refine RW.move rfl rfl ?_
      refine RW.leq rfl rfl rfl ?_
      refine RW.nil (EX.seq ?_)
      -- mq: cond
      first | refine CW.condD rfl (fun h1 => ?_) (fun h1 => ?_) | refine CW.cond rfl (fun h1 => ?_) (fun h1 => ?_)
      · skip
        refine CW.region ?_
        refine RW.move rfl rfl ?_
        refine RW.quo (r := -((m / 10 : Nat) : Int)) rfl rfl rfl (by decide) (by rw [hq]; exact wrap64 (by omega) (by omega)) ?_
        refine RW.neg_ (r := ((m / 10 : Nat) : Int)) rfl rfl (by rw [wrap64 (by omega) (by omega)]; omega) ?_
        refine RW.call rfl ca40 rfl (fun w' _ => refDigits_c w' (m / 10) (by omega)) ?_
        refine RW.assign rfl rfl ?_
        refine RW.nil ?_
        -- mq: joinend
        rw [if_pos (show 10 ≤ m by omega)]
        exact EX.jn (by repeat (first | exact Sub.nil | refine Sub.cons (by rfl) ?_)) (fun _ h => h)
      · skip
        refine CW.skip ?_
        -- mq: joinend
        rw [if_neg (show ¬ 10 ≤ m by omega)]
        exact EX.jn (by repeat (first | exact Sub.nil | refine Sub.cons (by rfl) ?_)) (fun _ h => h)
    · skip
      refine EX.seq (CW.seq (CW.region ?_))
      refine RW.move rfl rfl ?_
      refine RW.catS rfl rfl rfl (by first | omega | (simp only [List.length_append, List.length_cons, List.length_nil]; omega)) ?_
      refine RW.move rfl rfl ?_
      refine RW.rem (r := -((m % 10 : Nat) : Int)) rfl rfl rfl (by decide) hm ?_
      refine RW.neg_ (r := ((m % 10 : Nat) : Int)) rfl rfl (by rw [wrap64 (by omega) (by omega)]; omega) ?_
      refine RW.call rfl ca40 rfl (fun w' _ => refDigits_c w' (m % 10) (by omega)) ?_
      refine RW.catS rfl rfl rfl (by first | omega | (simp only [List.length_append, List.length_cons, List.length_nil]; omega)) ?_
      refine RW.assign rfl rfl ?_
      refine RW.nil (EX.seq (CW.ret ?_))
      refine EX.fin1 Tryd.results26 rfl (fun wz hw => ?_)
      -- mq: done
      refine ⟨?_, hw.ext⟩
      rw [itoa_lt (by omega), show (-(m : Int)).natAbs = m by omega, List.append_assoc, dec_two]
      rfl
def hexL : List UInt8 := [48, 49, 50, 51, 52, 53, 54, 55, 56, 57, 97, 98, 99, 100, 101, 102]
theorem hexL_cut : ∀ k, k < 16 → (hexL.take (k + 1)).drop k = [hexDig k] := by decide
theorem hexL_at : ∀ k, k < 16 → hexL[k]? = some (hexDig k) := by decide
theorem hexP_take {s : List UInt8} {k : Nat} {c : UInt8} (h : s[k]? = some c) : hexP (s.take (k + 1)) = hexP (s.take k) ++ hex2 c := by
  rw [List.take_add_one, h, Option.toList_some, hexP_snoc]
theorem refHex_c (w : World) (s : List UInt8) (hs : s.length ≤ 1000000) :
    Calls Tryd.prog 41 [.string (bs s)].toArray w (fun e w' => e = .returned (.string (bs (hexT s))) ∧ Ext [] w w') := by
  refine calls (n := 35) Tryd.func41 rfl Tryd.ntmps41 rfl ?_
  refine CW.sub (H' := SH w [] []) ?_ (Sub.refl _) (fun x hx => SH.start' _ _ hx)
  refine CW.seq (CW.region ?_)
  refine RW.assign rfl rfl ?_
  refine RW.nil (EX.seq (CW.seq (CW.region ?_)))
  refine RW.assign rfl rfl ?_
  refine RW.nil (EX.seq (CW.seq (CW.region ?_)))
  refine RW.assign rfl rfl ?_
  refine RW.nil (EX.seq (CW.seq (CW.seq (CW.region ?_))))
  refine RW.assign rfl rfl ?_
  refine RW.nil (EX.seq (CW.block ?_))
  -- mq: loop
  refine CW.loop (ι := Nat) (fun k => [(0, .string (bs s)), (3, .string (bs (61 :: hexP (s.take k)))), (4, .string (bs hexL)), (5, .int .i64 (k : Int))]) (fun _ => SH w [] []) (fun k => k ≤ s.length) (fun k => s.length - k) ?_ ?_
  · exact fun w hw => ⟨0, Nat.zero_le _, (by repeat (first | exact Sub.nil | refine Sub.cons (by rfl) ?_)), hw⟩
  · intro k hk
    have hln := hexP_len (s.take k)
    have htl : (s.take k).length = k := by rw [List.length_take]; omega
    refine CW.seq (CW.seq (CW.region ?_))
    refine RW.move rfl rfl ?_
    refine RW.move rfl rfl ?_
    refine RW.lenS Tryd.underlying9 rfl rfl ?_
    refine RW.lss rfl rfl rfl ?_
    refine RW.nil (EX.seq ?_)
    -- mq: cond
    first | refine CW.condD rfl (fun hlt => ?_) (fun hlt => ?_) | refine CW.cond rfl (fun hlt => ?_) (fun hlt => ?_)
    · skip
      obtain ⟨c, hc⟩ : ∃ c, s[k]? = some c := ⟨s[k]'(by omega), List.getElem?_eq_getElem _⟩
      have hc8 := UInt8.toNat_lt c
      have hxl : hexL.length = 16 := rfl
      have hx1 : ((hexL.take (c.toNat / 16 + 1)).drop (c.toNat / 16)).length = 1 := by rw [hexL_cut _ (by omega)]; rfl
      have hx2 : ((hexL.take (c.toNat % 16 + 1)).drop (c.toNat % 16)).length = 1 := by rw [hexL_cut _ (by omega)]; rfl
      refine CW.skip (EX.seq (CW.seq (CW.block (CW.seq (CW.region ?_)))))
      refine RW.move rfl rfl ?_
      refine RW.move rfl rfl ?_
      refine RW.ixStr (q := k) Tryd.underlying9 rfl rfl rfl (by omega) hc ?_
      refine RW.convI rfl rfl Tryd.underlying5 Tryd.underlying3 (wrap64 (by omega) (by omega)) ?_
      refine RW.assign rfl rfl ?_
      refine RW.nil (EX.seq ?_)
      refine CW.drawq mixed (by kernel_rfl) (fun _ hw => hw.drew) ?_
      refine DRq.cons rfl (RW.move rfl rfl RW.jn) ?_
      refine DRq.cons rfl (RW.move rfl rfl RW.jn) ?_
      refine DRq.cons rfl (RW.move rfl rfl RW.jn) ?_
      refine DRq.cons rfl (RW.quoN rfl rfl rfl (by omega) (by omega) (by omega) RW.jn) ?_
      refine DRq.cons rfl (RW.move rfl rfl RW.jn) ?_
      refine DRq.cons rfl (RW.quoN rfl rfl rfl (by omega) (by omega) (by omega) RW.jn) ?_
      refine DRq.cons rfl (RW.add rfl rfl rfl (wrap64 (by omega) (by omega)) RW.jn) ?_
      refine DRq.cons rfl (RW.sliceStrLH (c.toNat / 16) (c.toNat / 16 + 1) Tryd.underlying9 rfl rfl rfl rfl (by first | rfl | omega) (by first | rfl | omega) (by omega) (by first | omega | (simp; done) | (simp; omega)) RW.jn) ?_
      refine DRq.cons rfl (RW.catS rfl rfl rfl (by first | omega | (simp only [List.length_append, List.length_cons, List.length_nil]; omega)) RW.jn) ?_
      refine DRq.cons rfl (RW.move rfl rfl RW.jn) ?_
      refine DRq.cons rfl (RW.move rfl rfl RW.jn) ?_
      refine DRq.cons rfl (RW.remN rfl rfl rfl (by omega) (by omega) RW.jn) ?_
      refine DRq.cons rfl (RW.move rfl rfl RW.jn) ?_
      refine DRq.cons rfl (RW.remN rfl rfl rfl (by omega) (by omega) RW.jn) ?_
      refine DRq.cons rfl (RW.add rfl rfl rfl (wrap64 (by omega) (by omega)) RW.jn) ?_
      refine DRq.cons rfl (RW.sliceStrLH (c.toNat % 16) (c.toNat % 16 + 1) Tryd.underlying9 rfl rfl rfl rfl (by first | rfl | omega) (by first | rfl | omega) (by omega) (by first | omega | (simp; done) | (simp; omega)) RW.jn) ?_
      refine DRq.cons rfl (RW.catS rfl rfl rfl (by first | omega | (simp only [List.length_append, List.length_cons, List.length_nil]; omega)) RW.jn) ?_
      refine DRq.cons rfl (RW.assign rfl rfl RW.jn) ?_
      refine DRq.nil (EX.bkN (EX.seq (CW.region ?_)))
      refine RW.move rfl rfl ?_
      refine RW.add rfl rfl rfl (wrap64 (by omega) (by omega)) ?_
      refine RW.assign rfl rfl ?_
      refine RW.nil ?_
      -- mq: loopend
      have e : 61 :: hexP (s.take (k + 1)) = (61 :: hexP (s.take k)) ++ (hexL.take (c.toNat / 16 + 1)).drop (c.toNat / 16) ++ (hexL.take (c.toNat % 16 + 1)).drop (c.toNat % 16) := by
        rw [hexP_take hc, hexL_cut _ (by omega), hexL_cut _ (by omega), hex2]
        simp
      exact EX.lpN (k + 1) (by omega) (by omega) (by rw [e]; exact (by repeat (first | exact Sub.nil | refine Sub.cons (by rfl) ?_))) (fun w' hw' => hw')
    · skip
      obtain rfl : k = s.length := by omega
      refine CW.exit (EX.seqE (EX.lpE (EX.bkE (EX.seq (CW.seq (CW.region ?_))))))
      refine RW.move rfl rfl ?_
      refine RW.assign rfl rfl ?_
      refine RW.nil (EX.seq (CW.ret ?_))
      refine EX.fin1 Tryd.results41 rfl (fun wz hw => ?_)
      -- mq: done
      exact ⟨by rw [List.take_length]; rfl, hw.ext⟩
end Go.Proofs.YtnkdabjahmjdoaaDoor.Mq
