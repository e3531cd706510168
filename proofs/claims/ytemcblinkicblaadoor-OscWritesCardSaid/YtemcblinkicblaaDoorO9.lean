/- osc: the reference's Write -/
import Derived.Test.YtemcblinkicblaaDoorO8
namespace Go.Proofs.YtemcblinkicblaaDoor.Mq
open Go Go.RowKit Go.Proofs

theorem dec_split (n : Nat) : (if 10 ≤ n then Lib.decDigits (n / 10) else []) ++ Lib.decDigits (n % 10) = Lib.decDigits n := by
  by_cases h : 10 ≤ n
  · rw [if_pos h, dec_big (u := n) (by omega), dec_small (u := n % 10) (by omega)]
  · rw [if_neg h, Nat.mod_eq_of_lt (by omega)]; rfl
theorem tdiv_neg (n : Nat) : Int.tdiv (-(n : Int)) 10 = -((n / 10 : Nat) : Int) := by
  rw [Int.neg_tdiv, Int.tdiv_eq_ediv_of_nonneg (by omega)]; rfl
theorem tmod_neg (n : Nat) : Int.tmod (-(n : Int)) 10 = -((n % 10 : Nat) : Int) := by
  rw [Int.neg_tmod, Int.tmod_eq_emod_of_nonneg (by omega)]; rfl
set_option maxHeartbeats 1000000 in
theorem Write17_c (w : World) (x : SgV) (hx : x.Wf) (ht : x.text.length ≤ 1000000) :
    Calls Tryd.prog 19 [.agg x.cells.toArray].toArray w (fun e w' => e = .returned (.string (bs (writeO x))) ∧ Ext [] w w') := by
  have hcode : -9223372036854775808 ≤ x.code ∧ x.code ≤ 9223372036854775807 := hx.2
  obtain ⟨k, code, has, text⟩ := x
  dsimp only at ht hcode
  have hel := escF_len text
  have hil := itoa_le hcode
  have hwo : writeO ⟨k, code, has, text⟩ = if k = 1 then [49, 51, 51, 59, 65] else if k = 2 then [49, 51, 51, 59, 66] else if k = 3 then [49, 51, 51, 59, 67] else if k = 4 then (if has = true then doneL ++ (59 :: Lib.itoa code) else doneL) else if k = 5 then [54, 51, 51, 59, 69, 59] ++ escF text else if k = 6 then [54, 51, 51, 59, 80, 59, 67, 119, 100, 61] ++ escF text else if k = 7 then [49, 51, 51, 55, 59] ++ setL else if k = 8 then [50, 59] ++ text else [] := rfl
  have ha1 : ((([65, 66, 67] : List UInt8).take 1).drop 0).length = 1 := rfl
  have ha2 : ((([65, 66, 67] : List UInt8).take 2).drop 1).length = 1 := rfl
  have ha3 : ((([65, 66, 67] : List UInt8).take 3).drop 2).length = 1 := rfl
  refine calls (n := 64) Tryd.func19 rfl Tryd.ntmps19 rfl ?_
  refine CW.sub (H' := SH w [] []) ?_ (Sub.refl _) (fun x hx => SH.start' _ _ hx)
  refine CW.seq (CW.region ?_)
  refine RW.boxA rfl rfl (fun g1 hg1 hf1 => ?_)
  refine RW.assign rfl rfl ?_
  refine RW.nil (EX.seq (CW.seq (CW.seq ?_)))
  -- mq: region
  refine CW.region ?_
  refine RW.fieldB fl24x0 rfl rfl ?_
  refine RW.loadB1 sc3 rfl rfl (by first | exact Has.head | exact Has.tail Has.head | exact Has.tail (Has.tail Has.head) | exact Has.tail (Has.tail (Has.tail Has.head)) | exact Has.tail (Has.tail (Has.tail (Has.tail Has.head))) | exact Has.tail (Has.tail (Has.tail (Has.tail (Has.tail Has.head)))) | exact Has.tail (Has.tail (Has.tail (Has.tail (Has.tail (Has.tail Has.head)))))) rfl ?_
  refine RW.nil (EX.seq (CW.block (CW.seq (CW.seq (CW.region ?_)))))
  refine RW.eqlI rfl rfl rfl ?_
  refine RW.assign rfl rfl ?_
  refine RW.nil (EX.seq ?_)
  -- mq: cond
  first | refine CW.condD rfl (fun h1 => ?_) (fun h1 => ?_) | refine CW.cond rfl (fun h1 => ?_) (fun h1 => ?_)
  · skip
    obtain rfl : k = 1 := h1
    refine CW.skip (EX.seq ?_)
    -- mq: cond
    refine CW.condT rfl (rfl) ?_
    refine CW.seq (CW.region ?_)
    refine RW.fieldB fl24x0 rfl rfl ?_
    refine RW.loadB1 sc3 rfl rfl (by first | exact Has.head | exact Has.tail Has.head | exact Has.tail (Has.tail Has.head) | exact Has.tail (Has.tail (Has.tail Has.head)) | exact Has.tail (Has.tail (Has.tail (Has.tail Has.head))) | exact Has.tail (Has.tail (Has.tail (Has.tail (Has.tail Has.head)))) | exact Has.tail (Has.tail (Has.tail (Has.tail (Has.tail (Has.tail Has.head)))))) rfl ?_
    refine RW.sub_ (r := ((0 : Nat) : Int)) rfl rfl rfl rfl ?_
    refine RW.fieldB fl24x0 rfl rfl ?_
    refine RW.loadB1 sc3 rfl rfl (by first | exact Has.head | exact Has.tail Has.head | exact Has.tail (Has.tail Has.head) | exact Has.tail (Has.tail (Has.tail Has.head)) | exact Has.tail (Has.tail (Has.tail (Has.tail Has.head))) | exact Has.tail (Has.tail (Has.tail (Has.tail (Has.tail Has.head)))) | exact Has.tail (Has.tail (Has.tail (Has.tail (Has.tail (Has.tail Has.head)))))) rfl ?_
    refine RW.sliceStrLH (s := [65, 66, 67]) 0 1 Tryd.underlying9 rfl rfl rfl rfl rfl rfl (by decide) (by decide) ?_
    refine RW.catS rfl rfl rfl (by first | omega | (simp only [List.length_append, List.length_cons, List.length_nil]; omega)) ?_
    refine RW.assign rfl rfl ?_
    refine RW.nil (EX.seq (CW.ret (EX.bkR (EX.seqR ?_))))
    refine EX.fin1 Tryd.results19 rfl (fun wz hw => ?_)
    -- mq: done
    exact ⟨by rw [hwo, if_pos rfl] <;> rfl, hw.ext⟩
  · skip
    rw [if_neg (show ¬ k = 1 from h1)] at hwo
    refine CW.seq (CW.region ?_)
    refine RW.eqlI rfl rfl rfl ?_
    refine RW.assign rfl rfl ?_
    refine RW.nil (EX.seq ?_)
    -- mq: cond
    first | refine CW.condD rfl (fun h2 => ?_) (fun h2 => ?_) | refine CW.cond rfl (fun h2 => ?_) (fun h2 => ?_)
    · skip
      obtain rfl : k = 2 := h2
      refine CW.skip (EX.seq ?_)
      -- mq: cond
      refine CW.condT rfl (rfl) ?_
      refine CW.seq (CW.region ?_)
      refine RW.fieldB fl24x0 rfl rfl ?_
      refine RW.loadB1 sc3 rfl rfl (by first | exact Has.head | exact Has.tail Has.head | exact Has.tail (Has.tail Has.head) | exact Has.tail (Has.tail (Has.tail Has.head)) | exact Has.tail (Has.tail (Has.tail (Has.tail Has.head))) | exact Has.tail (Has.tail (Has.tail (Has.tail (Has.tail Has.head)))) | exact Has.tail (Has.tail (Has.tail (Has.tail (Has.tail (Has.tail Has.head)))))) rfl ?_
      refine RW.sub_ (r := ((1 : Nat) : Int)) rfl rfl rfl rfl ?_
      refine RW.fieldB fl24x0 rfl rfl ?_
      refine RW.loadB1 sc3 rfl rfl (by first | exact Has.head | exact Has.tail Has.head | exact Has.tail (Has.tail Has.head) | exact Has.tail (Has.tail (Has.tail Has.head)) | exact Has.tail (Has.tail (Has.tail (Has.tail Has.head))) | exact Has.tail (Has.tail (Has.tail (Has.tail (Has.tail Has.head)))) | exact Has.tail (Has.tail (Has.tail (Has.tail (Has.tail (Has.tail Has.head)))))) rfl ?_
      refine RW.sliceStrLH (s := [65, 66, 67]) 1 2 Tryd.underlying9 rfl rfl rfl rfl rfl rfl (by decide) (by decide) ?_
      refine RW.catS rfl rfl rfl (by first | omega | (simp only [List.length_append, List.length_cons, List.length_nil]; omega)) ?_
      refine RW.assign rfl rfl ?_
      refine RW.nil (EX.seq (CW.ret (EX.bkR (EX.seqR ?_))))
      refine EX.fin1 Tryd.results19 rfl (fun wz hw => ?_)
      -- mq: done
      exact ⟨by rw [hwo, if_pos rfl] <;> rfl, hw.ext⟩
    · skip
      rw [if_neg (show ¬ k = 2 from h2)] at hwo
      refine CW.region ?_
      refine RW.eqlI rfl rfl rfl ?_
      refine RW.assign rfl rfl ?_
      refine RW.nil (EX.seq ?_)
      -- mq: cond
      first | refine CW.condD rfl (fun h3 => ?_) (fun h3 => ?_) | refine CW.cond rfl (fun h3 => ?_) (fun h3 => ?_)
      · skip
        obtain rfl : k = 3 := h3
        refine CW.seq (CW.region ?_)
        refine RW.fieldB fl24x0 rfl rfl ?_
        refine RW.loadB1 sc3 rfl rfl (by first | exact Has.head | exact Has.tail Has.head | exact Has.tail (Has.tail Has.head) | exact Has.tail (Has.tail (Has.tail Has.head)) | exact Has.tail (Has.tail (Has.tail (Has.tail Has.head))) | exact Has.tail (Has.tail (Has.tail (Has.tail (Has.tail Has.head)))) | exact Has.tail (Has.tail (Has.tail (Has.tail (Has.tail (Has.tail Has.head)))))) rfl ?_
        refine RW.sub_ (r := ((2 : Nat) : Int)) rfl rfl rfl rfl ?_
        refine RW.fieldB fl24x0 rfl rfl ?_
        refine RW.loadB1 sc3 rfl rfl (by first | exact Has.head | exact Has.tail Has.head | exact Has.tail (Has.tail Has.head) | exact Has.tail (Has.tail (Has.tail Has.head)) | exact Has.tail (Has.tail (Has.tail (Has.tail Has.head))) | exact Has.tail (Has.tail (Has.tail (Has.tail (Has.tail Has.head)))) | exact Has.tail (Has.tail (Has.tail (Has.tail (Has.tail (Has.tail Has.head)))))) rfl ?_
        refine RW.sliceStrLH (s := [65, 66, 67]) 2 3 Tryd.underlying9 rfl rfl rfl rfl rfl rfl (by decide) (by decide) ?_
        refine RW.catS rfl rfl rfl (by first | omega | (simp only [List.length_append, List.length_cons, List.length_nil]; omega)) ?_
        refine RW.assign rfl rfl ?_
        refine RW.nil (EX.seq (CW.ret (EX.bkR (EX.seqR ?_))))
        refine EX.fin1 Tryd.results19 rfl (fun wz hw => ?_)
        -- mq: done
        exact ⟨by rw [hwo, if_pos rfl] <;> rfl, hw.ext⟩
      · skip
        rw [if_neg (show ¬ k = 3 from h3)] at hwo
        refine CW.seq (CW.region ?_)
        refine RW.eqlI rfl rfl rfl ?_
        refine RW.assign rfl rfl ?_
        refine RW.nil (EX.seq ?_)
        -- mq: cond
        first | refine CW.condD rfl (fun h4 => ?_) (fun h4 => ?_) | refine CW.cond rfl (fun h4 => ?_) (fun h4 => ?_)
        · skip
          rw [if_pos (show k = 4 from h4)] at hwo
          refine CW.seq (CW.seq (CW.region ?_))
          refine RW.fieldB fl24x2 rfl rfl ?_
          refine RW.loadB1 sc4 rfl rfl (by first | exact Has.head | exact Has.tail Has.head | exact Has.tail (Has.tail Has.head) | exact Has.tail (Has.tail (Has.tail Has.head)) | exact Has.tail (Has.tail (Has.tail (Has.tail Has.head))) | exact Has.tail (Has.tail (Has.tail (Has.tail (Has.tail Has.head)))) | exact Has.tail (Has.tail (Has.tail (Has.tail (Has.tail (Has.tail Has.head)))))) rfl ?_
          refine RW.not_ rfl rfl ?_
          refine RW.nil (EX.seq ?_)
          -- mq: cond
          first | refine CW.condD rfl (fun h5 => ?_) (fun h5 => ?_) | refine CW.cond rfl (fun h5 => ?_) (fun h5 => ?_)
          · skip
            have hh : has = false := by simpa using h5
            refine CW.seq (CW.region ?_)
            refine RW.assign rfl rfl ?_
            refine RW.nil (EX.seq (CW.ret (EX.seqR (EX.bkR (EX.seqR ?_)))))
            refine EX.fin1 Tryd.results19 rfl (fun wz hw => ?_)
            -- mq: done
            exact ⟨by rw [hwo, if_neg (by rw [hh]; decide)] <;> rfl, hw.ext⟩
          · skip
            have hh : has = true := by simpa using h5
            rw [if_pos hh] at hwo
            refine CW.skip (EX.seq (CW.seq (CW.seq (CW.region ?_))))
            refine RW.fieldB fl24x1 rfl rfl ?_
            refine RW.loadB1 sc3 rfl rfl (by first | exact Has.head | exact Has.tail Has.head | exact Has.tail (Has.tail Has.head) | exact Has.tail (Has.tail (Has.tail Has.head)) | exact Has.tail (Has.tail (Has.tail (Has.tail Has.head))) | exact Has.tail (Has.tail (Has.tail (Has.tail (Has.tail Has.head)))) | exact Has.tail (Has.tail (Has.tail (Has.tail (Has.tail (Has.tail Has.head)))))) rfl ?_
            refine RW.geq rfl rfl rfl ?_
            refine RW.nil (EX.seq ?_)
            -- mq: cond
            first | refine CW.condD rfl (fun h6 => ?_) (fun h6 => ?_) | refine CW.cond rfl (fun h6 => ?_) (fun h6 => ?_)
            · skip
              obtain ⟨n, rfl⟩ : ∃ n : Nat, code = n := ⟨code.toNat, by have : (0 : Int) ≤ code := h6; omega⟩
              rw [itoa_pos (by omega), show ((n : Int)).toNat = n from rfl] at hwo hil
              refine CW.seq (CW.region ?_)
              refine RW.fieldB fl24x1 rfl rfl ?_
              refine RW.loadB1 sc3 rfl rfl (by first | exact Has.head | exact Has.tail Has.head | exact Has.tail (Has.tail Has.head) | exact Has.tail (Has.tail (Has.tail Has.head)) | exact Has.tail (Has.tail (Has.tail (Has.tail Has.head))) | exact Has.tail (Has.tail (Has.tail (Has.tail (Has.tail Has.head)))) | exact Has.tail (Has.tail (Has.tail (Has.tail (Has.tail (Has.tail Has.head)))))) rfl ?_
              refine RW.call rfl ca38 rfl (fun w' _ => refDigits_c w' n (by omega)) ?_
              refine RW.catS rfl rfl rfl (by first | omega | (simp only [List.length_append, List.length_cons, List.length_nil]; omega)) ?_
              refine RW.assign rfl rfl ?_
              refine RW.nil (EX.seq (CW.ret (EX.seqR (EX.bkR (EX.seqR ?_)))))
              refine EX.fin1 Tryd.results19 rfl (fun wz hw => ?_)
              -- mq: done
              exact ⟨by rw [hwo] <;> rfl, hw.ext⟩
            · skip
              have hneg : code < 0 := by have : ¬ (0 : Int) ≤ code := h6; omega
              obtain ⟨n, rfl⟩ : ∃ n : Nat, code = -(n : Int) := ⟨code.natAbs, by omega⟩
              have hna : (-(n : Int)).natAbs = n := by omega
              rw [itoa_lt hneg, hna] at hwo hil
              rw [List.length_cons] at hil
              have hds := dec_split n
              have hdl : (if 10 ≤ n then Lib.decDigits (n / 10) else []).length ≤ 22 := by
                have := congrArg List.length hds
                rw [List.length_append] at this
                omega
              have hdl2 : (Lib.decDigits (n % 10)).length ≤ 22 := by
                have := congrArg List.length hds
                rw [List.length_append] at this
                omega
              refine CW.skip (EX.seq (CW.seq (CW.region ?_)))
              refine RW.assign rfl rfl ?_
              refine RW.nil (EX.seq (CW.seq (CW.seq (CW.region ?_))))
              refine RW.fieldB fl24x1 rfl rfl ?_
              refine RW.loadB1 sc3 rfl rfl (by first | exact Has.head | exact Has.tail Has.head | exact Has.tail (Has.tail Has.head) | exact Has.tail (Has.tail (Has.tail Has.head)) | exact Has.tail (Has.tail (Has.tail (Has.tail Has.head))) | exact Has.tail (Has.tail (Has.tail (Has.tail (Has.tail Has.head)))) | exact Has.tail (Has.tail (Has.tail (Has.tail (Has.tail (Has.tail Has.head)))))) rfl ?_
              refine RW.leq rfl rfl rfl ?_
              refine RW.nil (EX.seq ?_)
              -- mq: cond
              refine CW.join ([(1, .pointer (some ⟨g1, 0, none⟩)), (3, .string (bs (if 10 ≤ n then Lib.decDigits (n / 10) else [])))]) (SH w [] [blk g1 (SgV.mk k (-(n : Int)) has text).cells 24]) ?_ ?_
              · skip
                first | refine CW.condD rfl (fun h10 => ?_) (fun h10 => ?_) | refine CW.cond rfl (fun h10 => ?_) (fun h10 => ?_)
                · skip
                  have h10' : -(n : Int) ≤ -10 := h10
                  refine CW.region ?_
                  refine RW.fieldB fl24x1 rfl rfl ?_
                  refine RW.loadB1 sc3 rfl rfl (by first | exact Has.head | exact Has.tail Has.head | exact Has.tail (Has.tail Has.head) | exact Has.tail (Has.tail (Has.tail Has.head)) | exact Has.tail (Has.tail (Has.tail (Has.tail Has.head))) | exact Has.tail (Has.tail (Has.tail (Has.tail (Has.tail Has.head)))) | exact Has.tail (Has.tail (Has.tail (Has.tail (Has.tail (Has.tail Has.head)))))) rfl ?_
                  refine RW.quo (r := -((n / 10 : Nat) : Int)) rfl rfl rfl (by decide) (by rw [tdiv_neg]; exact wrap64 (by omega) (by omega)) ?_
                  refine RW.neg_ (r := ((n / 10 : Nat) : Int)) rfl rfl (by rw [wrap64 (by omega) (by omega)]; omega) ?_
                  refine RW.call rfl ca38 rfl (fun w' _ => refDigits_c w' (n / 10) (by omega)) ?_
                  refine RW.assign rfl rfl ?_
                  refine RW.nil ?_
                  -- mq: joinend
                  exact EX.jn (by rw [if_pos (show 10 ≤ n by omega)]; exact (by repeat (first | exact Sub.nil | refine Sub.cons (by rfl) ?_))) (fun _ h => h)
                · skip
                  have h10' : ¬ -(n : Int) ≤ -10 := h10
                  refine CW.skip ?_
                  -- mq: joinend
                  exact EX.jn (by rw [if_neg (show ¬ 10 ≤ n by omega)]; exact (by repeat (first | exact Sub.nil | refine Sub.cons (by rfl) ?_))) (fun _ h => h)
              · skip
                refine EX.seq (CW.seq (CW.region ?_))
                refine RW.move rfl rfl ?_
                refine RW.catS rfl rfl rfl (by first | omega | (simp only [List.length_append, List.length_cons, List.length_nil]; omega)) ?_
                refine RW.fieldB fl24x1 rfl rfl ?_
                refine RW.loadB1 sc3 rfl rfl (by first | exact Has.head | exact Has.tail Has.head | exact Has.tail (Has.tail Has.head) | exact Has.tail (Has.tail (Has.tail Has.head)) | exact Has.tail (Has.tail (Has.tail (Has.tail Has.head))) | exact Has.tail (Has.tail (Has.tail (Has.tail (Has.tail Has.head)))) | exact Has.tail (Has.tail (Has.tail (Has.tail (Has.tail (Has.tail Has.head)))))) rfl ?_
                refine RW.rem (r := -((n % 10 : Nat) : Int)) rfl rfl rfl (by decide) (tmod_neg n) ?_
                refine RW.neg_ (r := ((n % 10 : Nat) : Int)) rfl rfl (by rw [wrap64 (by omega) (by omega)]; omega) ?_
                refine RW.call rfl ca38 rfl (fun w' _ => refDigits_c w' (n % 10) (by omega)) ?_
                refine RW.catS rfl rfl rfl (by first | omega | (simp only [List.length_append, List.length_cons, List.length_nil]; omega)) ?_
                refine RW.assign rfl rfl ?_
                refine RW.nil (EX.seq (CW.ret (EX.bkR (EX.seqR ?_))))
                refine EX.fin1 Tryd.results19 rfl (fun wz hw => ?_)
                -- mq: done
                refine ⟨?_, hw.ext⟩
                rw [hwo, ← hds]
                congr 3
        · skip
          rw [if_neg (show ¬ k = 4 from h4)] at hwo
          refine CW.seq (CW.region ?_)
          refine RW.eqlI rfl rfl rfl ?_
          refine RW.assign rfl rfl ?_
          refine RW.nil (EX.seq ?_)
          -- mq: cond
          first | refine CW.condD rfl (fun h6 => ?_) (fun h6 => ?_) | refine CW.cond rfl (fun h6 => ?_) (fun h6 => ?_)
          · skip
            rw [if_pos (show k = 5 from h6)] at hwo
            refine CW.seq (CW.region ?_)
            refine RW.fieldB fl24x3 rfl rfl ?_
            refine RW.loadB1 sc9 rfl rfl (by first | exact Has.head | exact Has.tail Has.head | exact Has.tail (Has.tail Has.head) | exact Has.tail (Has.tail (Has.tail Has.head)) | exact Has.tail (Has.tail (Has.tail (Has.tail Has.head))) | exact Has.tail (Has.tail (Has.tail (Has.tail (Has.tail Has.head)))) | exact Has.tail (Has.tail (Has.tail (Has.tail (Has.tail (Has.tail Has.head)))))) rfl ?_
            refine RW.call rfl ca15 rfl (fun w' _ => Esc17_c w' text ht) ?_
            refine RW.catS rfl rfl rfl (by first | omega | (simp only [List.length_append, List.length_cons, List.length_nil]; omega)) ?_
            refine RW.assign rfl rfl ?_
            refine RW.nil (EX.seq (CW.ret (EX.bkR (EX.seqR ?_))))
            refine EX.fin1 Tryd.results19 rfl (fun wz hw => ?_)
            -- mq: done
            exact ⟨by rw [hwo] <;> rfl, hw.ext⟩
          · skip
            rw [if_neg (show ¬ k = 5 from h6)] at hwo
            refine CW.seq (CW.region ?_)
            refine RW.eqlI rfl rfl rfl ?_
            refine RW.assign rfl rfl ?_
            refine RW.nil (EX.seq ?_)
            -- mq: cond
            first | refine CW.condD rfl (fun h7 => ?_) (fun h7 => ?_) | refine CW.cond rfl (fun h7 => ?_) (fun h7 => ?_)
            · skip
              rw [if_pos (show k = 6 from h7)] at hwo
              refine CW.seq (CW.region ?_)
              refine RW.fieldB fl24x3 rfl rfl ?_
              refine RW.loadB1 sc9 rfl rfl (by first | exact Has.head | exact Has.tail Has.head | exact Has.tail (Has.tail Has.head) | exact Has.tail (Has.tail (Has.tail Has.head)) | exact Has.tail (Has.tail (Has.tail (Has.tail Has.head))) | exact Has.tail (Has.tail (Has.tail (Has.tail (Has.tail Has.head)))) | exact Has.tail (Has.tail (Has.tail (Has.tail (Has.tail (Has.tail Has.head)))))) rfl ?_
              refine RW.call rfl ca15 rfl (fun w' _ => Esc17_c w' text ht) ?_
              refine RW.catS rfl rfl rfl (by first | omega | (simp only [List.length_append, List.length_cons, List.length_nil]; omega)) ?_
              refine RW.assign rfl rfl ?_
              refine RW.nil (EX.seq (CW.ret (EX.bkR (EX.seqR ?_))))
              refine EX.fin1 Tryd.results19 rfl (fun wz hw => ?_)
              -- mq: done
              exact ⟨by rw [hwo] <;> rfl, hw.ext⟩
            · skip
              rw [if_neg (show ¬ k = 6 from h7)] at hwo
              refine CW.seq (CW.region ?_)
              refine RW.eqlI rfl rfl rfl ?_
              refine RW.assign rfl rfl ?_
              refine RW.nil (EX.seq ?_)
              -- mq: cond
              first | refine CW.condD rfl (fun h8 => ?_) (fun h8 => ?_) | refine CW.cond rfl (fun h8 => ?_) (fun h8 => ?_)
              · skip
                refine CW.seq (CW.region ?_)
                refine RW.assign rfl rfl ?_
                refine RW.nil (EX.seq (CW.ret (EX.bkR (EX.seqR ?_))))
                refine EX.fin1 Tryd.results19 rfl (fun wz hw => ?_)
                -- mq: done
                exact ⟨by rw [hwo, if_pos (show k = 7 from h8)] <;> rfl, hw.ext⟩
              · skip
                rw [if_neg (show ¬ k = 7 from h8)] at hwo
                refine CW.seq (CW.region ?_)
                refine RW.eqlI rfl rfl rfl ?_
                refine RW.assign rfl rfl ?_
                refine RW.nil (EX.seq ?_)
                -- mq: cond
                first | refine CW.condD rfl (fun h9 => ?_) (fun h9 => ?_) | refine CW.cond rfl (fun h9 => ?_) (fun h9 => ?_)
                · skip
                  refine CW.seq (CW.region ?_)
                  refine RW.fieldB fl24x3 rfl rfl ?_
                  refine RW.loadB1 sc9 rfl rfl (by first | exact Has.head | exact Has.tail Has.head | exact Has.tail (Has.tail Has.head) | exact Has.tail (Has.tail (Has.tail Has.head)) | exact Has.tail (Has.tail (Has.tail (Has.tail Has.head))) | exact Has.tail (Has.tail (Has.tail (Has.tail (Has.tail Has.head)))) | exact Has.tail (Has.tail (Has.tail (Has.tail (Has.tail (Has.tail Has.head)))))) rfl ?_
                  refine RW.catS rfl rfl rfl (by first | omega | (simp only [List.length_append, List.length_cons, List.length_nil]; omega)) ?_
                  refine RW.assign rfl rfl ?_
                  refine RW.nil (EX.seq (CW.ret (EX.bkR (EX.seqR ?_))))
                  refine EX.fin1 Tryd.results19 rfl (fun wz hw => ?_)
                  -- mq: done
                  exact ⟨by rw [hwo, if_pos (show k = 8 from h9)] <;> rfl, hw.ext⟩
                · skip
                  refine CW.skip (EX.bkN (EX.seq (CW.seq (CW.region ?_))))
                  refine RW.assign rfl rfl ?_
                  refine RW.nil (EX.seq (CW.ret ?_))
                  refine EX.fin1 Tryd.results19 rfl (fun wz hw => ?_)
                  -- mq: done
                  exact ⟨by rw [hwo, if_neg (show ¬ k = 8 from h9)] <;> rfl, hw.ext⟩
end Go.Proofs.YtemcblinkicblaaDoor.Mq
