/- reply: the reference's Read; walk of ReplyReads -/
import Derived.Test.YtjplfonmdjnplaaDoorRp2
import Derived.Test.YtjplfonmdjnplaaDoorPmB1s
namespace Go.Proofs.YtjplfonmdjnplaaDoor.Mq
open Go Go.RowKit Go.Proofs

theorem refRead_bad (w : World) (s : List UInt8) (hs : s.length ≤ 1000000) (hf : ¬ (s.take 2 = [27, 91] ∧ 3 ≤ s.length)) : Calls Tryd.prog 16 [.string (bs s)].toArray w (fun e w' => e = .returned (.tuple #[.int .u8 0, .slice none 0 0, .bool false]) ∧ Ext [] w w') := by
  refine calls (n := 75) Tryd.func16 rfl Tryd.ntmps16 rfl ?_
  refine CW.sub (H' := SH w [] []) ?_ (Sub.refl _) (fun x hx => SH.start' _ _ hx)
  refine CW.seq (CW.region ?_)
  refine RW.assign rfl rfl ?_
  refine RW.assign rfl rfl ?_
  refine RW.assign rfl rfl ?_
  refine RW.nil (EX.seq (CW.seq (CW.seq (CW.region ?_))))
  refine RW.move rfl rfl ?_
  refine RW.lenS Tryd.underlying9 rfl rfl ?_
  refine RW.lss rfl rfl rfl ?_
  refine RW.move rfl rfl ?_
  -- mq: guard slot 11
  refine RW.casesB 11 rfl (fun h1 => ?_) (fun h1 => ?_)
  · skip
    have h1p := of_decide_eq_true h1
    refine RW.guardF rfl rfl rfl h1 ?_
    refine RW.guardF rfl rfl rfl h1 ?_
    refine RW.guardF rfl rfl rfl h1 ?_
    refine RW.pickB rfl rfl h1 rfl ?_
    refine RW.move rfl rfl ?_
    refine RW.guardF rfl rfl rfl rfl ?_
    refine RW.guardF rfl rfl rfl rfl ?_
    refine RW.guardF rfl rfl rfl rfl ?_
    refine RW.pickB rfl rfl rfl rfl ?_
    refine RW.move rfl rfl ?_
    refine RW.guardF rfl rfl rfl rfl ?_
    refine RW.guardF rfl rfl rfl rfl ?_
    refine RW.guardF rfl rfl rfl rfl ?_
    refine RW.guardF rfl rfl rfl rfl ?_
    refine RW.guardF rfl rfl rfl rfl ?_
    refine RW.guardF rfl rfl rfl rfl ?_
    refine RW.pickB rfl rfl rfl rfl ?_
    refine RW.move rfl rfl ?_
    refine RW.guardF rfl rfl rfl rfl ?_
    refine RW.guardF rfl rfl rfl rfl ?_
    refine RW.guardF rfl rfl rfl rfl ?_
    refine RW.guardF rfl rfl rfl rfl ?_
    refine RW.guardF rfl rfl rfl rfl ?_
    refine RW.guardF rfl rfl rfl rfl ?_
    refine RW.pickB rfl rfl rfl rfl ?_
    refine RW.nil (EX.seq ?_)
    -- mq: cond
    -- mq: cond
    -- mq: cond
    -- mq: cond
    refine CW.condT rfl (rfl) ?_
    refine CW.seq (CW.region ?_)
    refine RW.assign rfl rfl ?_
    refine RW.assign rfl rfl ?_
    refine RW.assign rfl rfl ?_
    refine RW.nil (EX.seq (CW.ret (EX.seqR ?_)))
    refine EX.fin3 Tryd.results16 rfl rfl rfl (fun wz hw => ?_)
    -- mq: done
    exact ⟨rfl, hw.ext⟩
  · skip
    have h1p := of_decide_eq_false h1
    obtain ⟨a, b, c, t, rfl⟩ : ∃ a b c t, s = a :: b :: c :: t := by
      match s, h1p with
      | [], h => simp at h
      | [_], h => simp at h
      | [_, _], h => simp at h
      | a :: b :: c :: t, _ => exact ⟨a, b, c, t, rfl⟩
    have hne : ¬ (a = 27 ∧ b = 91) := fun ⟨h1, h2⟩ => hf ⟨by simp [h1, h2], by simp⟩
    refine RW.guardT rfl rfl h1 ?_
    refine RW.move rfl rfl ?_
    refine RW.guardT rfl rfl h1 ?_
    refine RW.ixStr (q := 0) Tryd.underlying9 rfl rfl rfl (by rfl) rfl ?_
    refine RW.guardT rfl rfl h1 ?_
    refine RW.neqI rfl rfl rfl ?_
    refine RW.pickC rfl rfl h1 rfl ?_
    refine RW.move rfl rfl ?_
    -- mq: guard slot 16
    refine RW.casesB 16 rfl (fun h2 => ?_) (fun h2 => ?_)
    · skip
      refine RW.guardF rfl rfl rfl h2 ?_
      refine RW.guardF rfl rfl rfl h2 ?_
      refine RW.guardF rfl rfl rfl h2 ?_
      refine RW.pickB rfl rfl h2 rfl ?_
      refine RW.move rfl rfl ?_
      refine RW.guardF rfl rfl rfl rfl ?_
      refine RW.guardF rfl rfl rfl rfl ?_
      refine RW.guardF rfl rfl rfl rfl ?_
      refine RW.guardF rfl rfl rfl rfl ?_
      refine RW.guardF rfl rfl rfl rfl ?_
      refine RW.guardF rfl rfl rfl rfl ?_
      refine RW.pickB rfl rfl rfl rfl ?_
      refine RW.move rfl rfl ?_
      refine RW.guardF rfl rfl rfl rfl ?_
      refine RW.guardF rfl rfl rfl rfl ?_
      refine RW.guardF rfl rfl rfl rfl ?_
      refine RW.guardF rfl rfl rfl rfl ?_
      refine RW.guardF rfl rfl rfl rfl ?_
      refine RW.guardF rfl rfl rfl rfl ?_
      refine RW.pickB rfl rfl rfl rfl ?_
      refine RW.nil (EX.seq ?_)
      -- mq: cond
      -- mq: cond
      -- mq: cond
      refine CW.condT rfl (rfl) ?_
      refine CW.seq (CW.region ?_)
      refine RW.assign rfl rfl ?_
      refine RW.assign rfl rfl ?_
      refine RW.assign rfl rfl ?_
      refine RW.nil (EX.seq (CW.ret (EX.seqR ?_)))
      refine EX.fin3 Tryd.results16 rfl rfl rfl (fun wz hw => ?_)
      -- mq: done
      exact ⟨rfl, hw.ext⟩
    · skip
      refine RW.guardT rfl rfl h2 ?_
      refine RW.move rfl rfl ?_
      refine RW.guardT rfl rfl h2 ?_
      refine RW.ixStr (q := 1) Tryd.underlying9 rfl rfl rfl (by rfl) rfl ?_
      refine RW.guardT rfl rfl h2 ?_
      refine RW.neqI rfl rfl rfl ?_
      refine RW.pickC rfl rfl h2 rfl ?_
      refine RW.move rfl rfl ?_
      -- mq: guard slot 21
      have h3 : (decide ¬ ((b.toNat : Int) = 91)) = true := by
        refine decide_eq_true fun e => ?_
        have h2' : ((a.toNat : Int) = 27) := by simpa using h2
        exact hne ⟨UInt8.toNat.inj (show a.toNat = (27 : UInt8).toNat by simp; omega), UInt8.toNat.inj (show b.toNat = (91 : UInt8).toNat by simp; omega)⟩
      refine RW.guardF rfl rfl rfl (by simpa using h3) ?_
      refine RW.guardF rfl rfl rfl (by simpa using h3) ?_
      refine RW.guardF rfl rfl rfl (by simpa using h3) ?_
      refine RW.guardF rfl rfl rfl (by simpa using h3) ?_
      refine RW.guardF rfl rfl rfl (by simpa using h3) ?_
      refine RW.guardF rfl rfl rfl (by simpa using h3) ?_
      refine RW.pickB rfl rfl (by simpa using h3) rfl ?_
      refine RW.move rfl rfl ?_
      refine RW.guardF rfl rfl rfl rfl ?_
      refine RW.guardF rfl rfl rfl rfl ?_
      refine RW.guardF rfl rfl rfl rfl ?_
      refine RW.guardF rfl rfl rfl rfl ?_
      refine RW.guardF rfl rfl rfl rfl ?_
      refine RW.guardF rfl rfl rfl rfl ?_
      refine RW.pickB rfl rfl rfl rfl ?_
      refine RW.nil (EX.seq ?_)
      -- mq: cond
      -- mq: cond
      refine CW.condT rfl ((by simp)) ?_
      refine CW.seq (CW.region ?_)
      refine RW.assign rfl rfl ?_
      refine RW.assign rfl rfl ?_
      refine RW.assign rfl rfl ?_
      refine RW.nil (EX.seq (CW.ret (EX.seqR ?_)))
      refine EX.fin3 Tryd.results16 rfl rfl rfl (fun wz hw => ?_)
      -- mq: done
      exact ⟨rfl, hw.ext⟩
theorem refRead_good (w : World) (h : List UInt8) (c : UInt8) (hs : h.length ≤ 397) : Calls Tryd.prog 16 [.string (bs (27 :: 91 :: (h ++ [c])))].toArray w (RetA (IsRd (.bool true) (.bool false) h c w) w) := by
  have hl : (27 :: 91 :: (h ++ [c])).length = h.length + 3 := by simp
  have hix : (27 :: 91 :: (h ++ [c]))[h.length + 2]? = some c := by simp
  have hmid : ((27 :: 91 :: (h ++ [c])).take (h.length + 2)).drop 2 = h := by simp
  refine calls (n := 75) Tryd.func16 rfl Tryd.ntmps16 rfl ?_
  refine CW.sub (H' := SH w [] []) ?_ (Sub.refl _) (fun x hx => SH.start' _ _ hx)
  refine CW.seq (CW.region ?_)
  refine RW.assign rfl rfl ?_
  refine RW.assign rfl rfl ?_
  refine RW.assign rfl rfl ?_
  refine RW.nil (EX.seq (CW.seq (CW.seq (CW.region ?_))))
  refine RW.move rfl rfl ?_
  refine RW.lenS Tryd.underlying9 rfl rfl ?_
  refine RW.lss rfl rfl rfl ?_
  refine RW.move rfl rfl ?_
  -- mq: guard slot 11
  refine RW.guardT rfl rfl (decide_eq_false (by rw [hl]; omega)) ?_
  refine RW.move rfl rfl ?_
  refine RW.guardT rfl rfl (decide_eq_false (by rw [hl]; omega)) ?_
  refine RW.ixStr (q := 0) Tryd.underlying9 rfl rfl rfl (by rfl) rfl ?_
  refine RW.guardT rfl rfl (decide_eq_false (by rw [hl]; omega)) ?_
  refine RW.neqI rfl rfl rfl ?_
  refine RW.pickC rfl rfl (decide_eq_false (by rw [hl]; omega)) rfl ?_
  refine RW.move rfl rfl ?_
  refine RW.guardT rfl rfl rfl ?_
  refine RW.move rfl rfl ?_
  refine RW.guardT rfl rfl rfl ?_
  refine RW.ixStr (q := 1) Tryd.underlying9 rfl rfl rfl (by rfl) rfl ?_
  refine RW.guardT rfl rfl rfl ?_
  refine RW.neqI rfl rfl rfl ?_
  refine RW.pickC rfl rfl rfl rfl ?_
  refine RW.move rfl rfl ?_
  refine RW.guardT rfl rfl rfl ?_
  refine RW.move rfl rfl ?_
  refine RW.guardT rfl rfl rfl ?_
  refine RW.move rfl rfl ?_
  refine RW.guardT rfl rfl rfl ?_
  refine RW.lenS Tryd.underlying9 rfl rfl ?_
  refine RW.guardT rfl rfl rfl ?_
  refine RW.sub_ rfl rfl rfl (wrap64 (by omega) (by omega)) ?_
  refine RW.guardT rfl rfl rfl ?_
  refine RW.ixStr (q := (h.length + 2)) Tryd.underlying9 rfl rfl rfl (by omega) hix ?_
  refine RW.guardT rfl rfl rfl ?_
  refine RW.lss rfl rfl rfl ?_
  refine RW.pickC rfl rfl rfl rfl ?_
  refine RW.move rfl rfl ?_
  -- mq: guard slot 29
  refine RW.casesB 29 rfl (fun h2 => ?_) (fun h2 => ?_)
  · skip
    have h2p := of_decide_eq_true h2
    refine RW.guardF rfl rfl rfl h2 ?_
    refine RW.guardF rfl rfl rfl h2 ?_
    refine RW.guardF rfl rfl rfl h2 ?_
    refine RW.guardF rfl rfl rfl h2 ?_
    refine RW.guardF rfl rfl rfl h2 ?_
    refine RW.guardF rfl rfl rfl h2 ?_
    refine RW.pickB rfl rfl h2 rfl ?_
    refine RW.nil (EX.seq ?_)
    -- mq: cond
    refine CW.condT rfl (rfl) ?_
    refine CW.seq (CW.region ?_)
    refine RW.assign rfl rfl ?_
    refine RW.assign rfl rfl ?_
    refine RW.assign rfl rfl ?_
    refine RW.nil (EX.seq (CW.ret (EX.seqR ?_)))
    refine EX.fin3 Tryd.results16 rfl rfl rfl (fun wz hw => ?_)
    -- mq: done
    refine ⟨_, rfl, hw.ext, ?_⟩
    unfold IsRd okF
    rw [if_neg (by simp; omega)]
  · skip
    have h2p := of_decide_eq_false h2
    refine RW.guardT rfl rfl h2 ?_
    refine RW.move rfl rfl ?_
    refine RW.guardT rfl rfl h2 ?_
    refine RW.move rfl rfl ?_
    refine RW.guardT rfl rfl h2 ?_
    refine RW.lenS Tryd.underlying9 rfl rfl ?_
    refine RW.guardT rfl rfl h2 ?_
    refine RW.sub_ rfl rfl rfl (wrap64 (by omega) (by omega)) ?_
    refine RW.guardT rfl rfl h2 ?_
    refine RW.ixStr (q := (h.length + 2)) Tryd.underlying9 rfl rfl rfl (by omega) hix ?_
    refine RW.guardT rfl rfl h2 ?_
    refine RW.gtr rfl rfl rfl ?_
    refine RW.pickC rfl rfl h2 rfl ?_
    refine RW.nil (EX.seq ?_)
    -- mq: cond
    first | refine CW.condD rfl (fun h3 => ?_) (fun h3 => ?_) | refine CW.cond rfl (fun h3 => ?_) (fun h3 => ?_)
    · skip
      refine CW.seq (CW.region ?_)
      refine RW.assign rfl rfl ?_
      refine RW.assign rfl rfl ?_
      refine RW.assign rfl rfl ?_
      refine RW.nil (EX.seq (CW.ret (EX.seqR ?_)))
      refine EX.fin3 Tryd.results16 rfl rfl rfl (fun wz hw => ?_)
      -- mq: done
      refine ⟨_, rfl, hw.ext, ?_⟩
      unfold IsRd okF
      rw [if_neg (by simp; omega)]
    · skip
      refine CW.skip (EX.seq (CW.seq (CW.region ?_)))
      refine RW.move rfl rfl ?_
      refine RW.move rfl rfl ?_
      refine RW.lenS Tryd.underlying9 rfl rfl ?_
      refine RW.sub_ rfl rfl rfl (wrap64 (by omega) (by omega)) ?_
      refine RW.sliceStrLH 2 (h.length + 2) Tryd.underlying9 rfl rfl rfl rfl (by first | rfl | omega) (by first | rfl | omega) (by omega) (by first | omega | (simp; done) | (simp; omega)) ?_
      refine RW.assign rfl rfl ?_
      refine RW.nil (EX.seq (CW.seq ?_))
      -- mq: seq
      rw [hmid]
      refine CW.join ([(0, .string (bs (27 :: 91 :: (h ++ [c])))), (5, .string (bs (stripF h)))]) (SH w [] []) ?_ ?_
      · skip
        refine CW.seq (CW.region ?_)
        refine RW.move rfl rfl ?_
        refine RW.lenS Tryd.underlying9 rfl rfl ?_
        refine RW.gtr rfl rfl rfl ?_
        refine RW.move rfl rfl ?_
        -- mq: guard slot 45
        clear hl hix hmid
        cases h with
        | nil =>
          refine RW.guardF rfl rfl rfl rfl ?_
          refine RW.guardF rfl rfl rfl rfl ?_
          refine RW.guardF rfl rfl rfl rfl ?_
          refine RW.pickC rfl rfl rfl rfl ?_
          refine RW.move rfl rfl ?_
          refine RW.guardF rfl rfl rfl rfl ?_
          refine RW.guardF rfl rfl rfl rfl ?_
          refine RW.guardF rfl rfl rfl rfl ?_
          refine RW.pickC rfl rfl rfl rfl ?_
          refine RW.nil (EX.seq ?_)
          -- mq: cond
          -- mq: cond
          refine CW.condF rfl (rfl) ?_
          refine CW.skip ?_
          -- mq: joinend
          exact EX.jn (by repeat (first | exact Sub.nil | refine Sub.cons (by rfl) ?_)) (fun _ h => h)
        | cons x t =>
          refine RW.guardT rfl rfl (decide_eq_true (by simp)) ?_
          refine RW.move rfl rfl ?_
          refine RW.guardT rfl rfl (decide_eq_true (by simp)) ?_
          refine RW.ixStr (q := 0) Tryd.underlying9 rfl rfl rfl (by rfl) rfl ?_
          refine RW.guardT rfl rfl (decide_eq_true (by simp)) ?_
          refine RW.geq rfl rfl rfl ?_
          refine RW.pickB rfl rfl (decide_eq_true (by simp)) rfl ?_
          refine RW.move rfl rfl ?_
          -- mq: guard slot 50
          refine RW.casesB 50 rfl (fun h1 => ?_) (fun h1 => ?_)
          · skip
            have h1p := of_decide_eq_true h1
            refine RW.guardT rfl rfl h1 ?_
            refine RW.move rfl rfl ?_
            refine RW.guardT rfl rfl h1 ?_
            refine RW.ixStr (q := 0) Tryd.underlying9 rfl rfl rfl (by rfl) rfl ?_
            refine RW.guardT rfl rfl h1 ?_
            refine RW.leq rfl rfl rfl ?_
            refine RW.pickB rfl rfl h1 rfl ?_
            refine RW.nil (EX.seq ?_)
            -- mq: cond
            first | refine CW.condD rfl (fun h4 => ?_) (fun h4 => ?_) | refine CW.cond rfl (fun h4 => ?_) (fun h4 => ?_)
            · skip
              refine CW.region ?_
              refine RW.move rfl rfl ?_
              refine RW.sliceStrL (1) Tryd.underlying9 rfl rfl rfl (by first | rfl | omega) (by first | omega | (simp; done) | (simp; omega)) ?_
              refine RW.assign rfl rfl ?_
              refine RW.nil ?_
              -- mq: joinend
              rw [show stripF (x :: t) = t from if_pos ⟨by omega, by omega⟩]
              exact EX.jn (by repeat (first | exact Sub.nil | refine Sub.cons (by rfl) ?_)) (fun _ h => h)
            · skip
              refine CW.skip ?_
              -- mq: joinend
              rw [show stripF (x :: t) = x :: t from if_neg (by omega)]
              exact EX.jn (by repeat (first | exact Sub.nil | refine Sub.cons (by rfl) ?_)) (fun _ h => h)
          · skip
            have h1p := of_decide_eq_false h1
            refine RW.guardF rfl rfl rfl h1 ?_
            refine RW.guardF rfl rfl rfl h1 ?_
            refine RW.guardF rfl rfl rfl h1 ?_
            refine RW.pickC rfl rfl h1 rfl ?_
            refine RW.nil (EX.seq ?_)
            -- mq: cond
            refine CW.condF rfl (rfl) ?_
            refine CW.skip ?_
            -- mq: joinend
            rw [show stripF (x :: t) = x :: t from if_neg (by omega)]
            exact EX.jn (by repeat (first | exact Sub.nil | refine Sub.cons (by rfl) ?_)) (fun _ h => h)
      · skip
        have hsl := stripF_len h
        unfold IsRd okF
        generalize stripF h = g at *
        refine EX.seq (CW.seq ?_)
        -- mq: region
        refine CW.region ?_
        refine RW.move rfl rfl ?_
        -- mq: at
        refine RW.callA (R := fun w0 v w' => ∃ A n c, v = .tuple #[.slice A n c, .bool (headB g)] ∧ (headB g = true → RdG w' (fun k => w0.heap.size ≤ k) A n c (parseF g))) rfl ca30 rfl (fun w' hw' => (refParse_c w' g (by omega)).mono (fun e w'' h => parse_form h)) ?_
        rintro w0 w1 v hw0 he01 hw1 hlt ⟨A, n, k, rfl, hrd⟩
        have hx0 : Ext [] w w1 := hw0.ext.trans0 he01
        have hsz := hw0.ext.size
        rw [show feet [] = [] from rfl]
        refine RW.move rfl rfl ?_
        refine RW.extract rfl rfl rfl ?_
        refine RW.extract rfl rfl rfl ?_
        refine RW.assign rfl rfl ?_
        refine RW.assign rfl rfl ?_
        refine RW.nil (EX.seq (CW.seq (CW.seq (CW.region ?_))))
        refine RW.move rfl rfl ?_
        refine RW.not_ rfl rfl ?_
        refine RW.move rfl rfl ?_
        -- mq: guard slot 64
        cases hh : headB g with
        | false =>
          refine RW.guardF rfl rfl rfl rfl ?_
          refine RW.guardF rfl rfl rfl rfl ?_
          refine RW.guardF rfl rfl rfl rfl ?_
          refine RW.pickB rfl rfl rfl rfl ?_
          refine RW.nil (EX.seq ?_)
          -- mq: cond
          refine CW.condT rfl (rfl) ?_
          refine CW.seq (CW.region ?_)
          refine RW.assign rfl rfl ?_
          refine RW.assign rfl rfl ?_
          refine RW.assign rfl rfl ?_
          refine RW.nil (EX.seq (CW.ret (EX.seqR ?_)))
          refine EX.fin3 Tryd.results16 rfl rfl rfl (fun wz hw => ?_)
          -- mq: done
          exact ⟨_, rfl, hx0.trans0 hw.ext, by simp⟩
        | true =>
          have hrd := hrd hh
          refine RW.guardT rfl rfl rfl ?_
          refine RW.move rfl rfl ?_
          refine RW.guardT rfl rfl rfl ?_
          refine RW.lenS Tryd.underlying9 rfl rfl ?_
          refine RW.guardT rfl rfl rfl ?_
          refine RW.gtr rfl rfl rfl ?_
          refine RW.pickC rfl rfl rfl rfl ?_
          refine RW.nil (EX.seq ?_)
          -- mq: cond
          first | refine CW.condD rfl (fun h5 => ?_) (fun h5 => ?_) | refine CW.cond rfl (fun h5 => ?_) (fun h5 => ?_)
          · skip
            refine CW.seq (CW.region ?_)
            refine RW.assign rfl rfl ?_
            refine RW.assign rfl rfl ?_
            refine RW.assign rfl rfl ?_
            refine RW.nil (EX.seq (CW.ret (EX.seqR ?_)))
            refine EX.fin3 Tryd.results16 rfl rfl rfl (fun wz hw => ?_)
            -- mq: done
            refine ⟨_, rfl, hx0.trans0 hw.ext, ?_⟩
            dsimp only; rw [if_neg (by simp; omega)]
          · skip
            refine CW.skip (EX.seq (CW.seq (CW.region ?_)))
            refine RW.move rfl rfl ?_
            refine RW.move rfl rfl ?_
            refine RW.lenS Tryd.underlying9 rfl rfl ?_
            refine RW.sub_ rfl rfl rfl (wrap64 (by omega) (by omega)) ?_
            refine RW.ixStr (q := (h.length + 2)) Tryd.underlying9 rfl rfl rfl (by omega) hix ?_
            refine RW.move rfl rfl ?_
            refine RW.assign rfl rfl ?_
            refine RW.assign rfl rfl ?_
            refine RW.assign rfl rfl ?_
            refine RW.nil (EX.seq (CW.ret ?_))
            refine EX.fin3 Tryd.results16 rfl rfl rfl (fun wz hw => ?_)
            -- mq: done
            refine ⟨_, rfl, hx0.trans0 hw.ext, ?_⟩
            dsimp only; rw [if_pos (by simp; omega)]
            exact ⟨A, n, k, rfl, (hrd.ext hw.ext (by simp)).weak (fun q hq => by omega)⟩
theorem reads_c (w : World) (hg : Gl w) (s : List UInt8) : Calls Tryd.prog 6 [.string (bs s)].toArray w (fun e w' => e = .returned (.bool true) ∧ Ext [] w w') := by
  refine calls (n := 56) Tryd.func6 rfl Tryd.ntmps6 rfl ?_
  refine CW.sub (H' := SH w [] []) ?_ (Sub.refl _) (fun x hx => SH.start' _ _ hx)
  refine CW.seq (CW.region ?_)
  refine RW.assign rfl rfl ?_
  refine RW.nil (EX.seq (CW.seq (CW.seq (CW.region ?_))))
  refine RW.move rfl rfl ?_
  refine RW.lenS Tryd.underlying9 rfl rfl ?_
  refine RW.gtr rfl rfl rfl ?_
  refine RW.nil (EX.seq ?_)
  -- mq: cond
  first | refine CW.condD rfl (fun hgt => ?_) (fun hgt => ?_) | refine CW.cond rfl (fun hgt => ?_) (fun hgt => ?_)
  · skip
    refine CW.seq (CW.region ?_)
    refine RW.call rfl ca12 rfl (fun w' hw' => awake_c w' (hg.ext hw'.ext)) ?_
    refine RW.assign rfl rfl ?_
    refine RW.nil (EX.seq (CW.ret (EX.seqR ?_)))
    refine EX.fin1 Tryd.results6 rfl (fun wz hw => ?_)
    -- mq: done
    exact ⟨rfl, hw.ext⟩
  · skip
    refine CW.skip (EX.seq (CW.seq ?_))
    -- mq: region
    refine CW.region ?_
    refine RW.move rfl rfl ?_
    -- mq: at
    rcases form_cases s with ⟨h, c, rfl⟩ | hf
    · skip
      have hl : (27 :: 91 :: (h ++ [c])).length = h.length + 3 := by simp
      refine RW.callA (R := fun w0 v w' => IsRd (.int .i64 0) (.int .i64 4) h c w0 v w') rfl ca15 rfl (fun w' hw' => read_good w' h c (by omega)) ?_
      rintro w0 w1 v hw0 he01 hw1 hlt hv
      have hx1 : Ext [] w w1 := hw0.ext.trans0 he01
      rw [show feet [] = [] from rfl]
      cases hok : okF h c with
      | false =>
        unfold IsRd at hv
        rw [hok, if_neg (by simp)] at hv
        subst hv
        refine RW.move rfl rfl ?_
        refine RW.extract rfl rfl rfl ?_
        refine RW.extract rfl rfl rfl ?_
        refine RW.extract rfl rfl rfl ?_
        refine RW.assign rfl rfl ?_
        refine RW.assign rfl rfl ?_
        refine RW.assign rfl rfl ?_
        refine RW.nil (EX.seq (CW.seq ?_))
        -- mq: region
        refine CW.region ?_
        refine RW.move rfl rfl ?_
        -- mq: at
        refine RW.callA (R := fun w0 v w' => IsRd (.bool true) (.bool false) h c w0 v w') rfl ca16 rfl (fun w' hw' => refRead_good w' h c (by omega)) ?_
        rintro w2 w3 v hw2 he23 hw3 hlt2 hv2
        have hx3 : Ext [] w w3 := (hx1.trans0 hw2.ext).trans0 he23
        rw [show feet [] = [] from rfl]
        unfold IsRd at hv2
        rw [hok, if_neg (by simp)] at hv2
        subst hv2
        refine RW.move rfl rfl ?_
        refine RW.extract rfl rfl rfl ?_
        refine RW.extract rfl rfl rfl ?_
        refine RW.extract rfl rfl rfl ?_
        refine RW.assign rfl rfl ?_
        refine RW.assign rfl rfl ?_
        refine RW.assign rfl rfl ?_
        refine RW.nil (EX.seq (CW.seq (CW.seq (CW.region ?_))))
        refine RW.move rfl rfl ?_
        refine RW.not_ rfl rfl ?_
        refine RW.nil (EX.seq ?_)
        -- mq: cond
        refine CW.condT rfl (rfl) ?_
        refine CW.seq (CW.region ?_)
        refine RW.move rfl rfl ?_
        refine RW.eqlI rfl rfl rfl ?_
        refine RW.move rfl rfl ?_
        refine RW.guardT rfl rfl rfl ?_
        refine RW.move rfl rfl ?_
        refine RW.guardT rfl rfl rfl ?_
        refine RW.eqlI rfl rfl rfl ?_
        refine RW.pickB rfl rfl rfl rfl ?_
        refine RW.move rfl rfl ?_
        refine RW.guardT rfl rfl rfl ?_
        refine RW.move rfl rfl ?_
        refine RW.guardT rfl rfl rfl ?_
        refine RW.lenSl Tryd.underlying36 rfl rfl ?_
        refine RW.guardT rfl rfl rfl ?_
        refine RW.eqlI rfl rfl rfl ?_
        refine RW.pickB rfl rfl rfl rfl ?_
        refine RW.move rfl rfl ?_
        refine RW.guardT rfl rfl rfl ?_
        refine RW.call rfl ca12 rfl (fun w' hw' => awake_c w' (hg.ext (hx3.trans0 hw'.ext))) ?_
        refine RW.pickB rfl rfl rfl rfl ?_
        refine RW.assign rfl rfl ?_
        refine RW.nil (EX.seq (CW.ret (EX.seqR ?_)))
        refine EX.fin1 Tryd.results6 rfl (fun wz hw => ?_)
        -- mq: done
        exact ⟨rfl, hx3.trans0 hw.ext⟩
      | true =>
        unfold IsRd at hv
        rw [if_pos hok] at hv
        obtain ⟨A, n, k, rfl, hrd⟩ := hv
        refine RW.move rfl rfl ?_
        refine RW.extract rfl rfl rfl ?_
        refine RW.extract rfl rfl rfl ?_
        refine RW.extract rfl rfl rfl ?_
        refine RW.assign rfl rfl ?_
        refine RW.assign rfl rfl ?_
        refine RW.assign rfl rfl ?_
        refine RW.nil (EX.seq (CW.seq ?_))
        -- mq: region
        refine CW.region ?_
        refine RW.move rfl rfl ?_
        -- mq: at
        refine RW.callA (R := fun w0 v w' => IsRd (.bool true) (.bool false) h c w0 v w') rfl ca16 rfl (fun w' hw' => refRead_good w' h c (by omega)) ?_
        rintro w2 w3 v hw2 he23 hw3 hlt2 hv2
        have hx13 : Ext [] w1 w3 := hw2.ext.trans0 he23
        have hx3 : Ext [] w w3 := hx1.trans0 hx13
        rw [show feet [] = [] from rfl]
        unfold IsRd at hv2
        rw [if_pos hok] at hv2
        obtain ⟨A3, n3, k3, rfl, hrd3⟩ := hv2
        have hrd := hrd.ext hx13 (by simp)
        have hp := parseF_len (stripF h)
        refine RW.move rfl rfl ?_
        refine RW.extract rfl rfl rfl ?_
        refine RW.extract rfl rfl rfl ?_
        refine RW.extract rfl rfl rfl ?_
        refine RW.assign rfl rfl ?_
        refine RW.assign rfl rfl ?_
        refine RW.assign rfl rfl ?_
        refine RW.nil (EX.seq (CW.seq (CW.seq (CW.region ?_))))
        refine RW.move rfl rfl ?_
        refine RW.not_ rfl rfl ?_
        refine RW.nil (EX.seq ?_)
        -- mq: cond
        refine CW.condF rfl (rfl) ?_
        refine CW.skip (EX.seq (CW.seq (CW.region ?_)))
        refine RW.move rfl rfl ?_
        refine RW.eqlI rfl rfl rfl ?_
        refine RW.move rfl rfl ?_
        refine RW.guardT rfl rfl rfl ?_
        refine RW.move rfl rfl ?_
        refine RW.guardT rfl rfl rfl ?_
        refine RW.move rfl rfl ?_
        refine RW.guardT rfl rfl rfl ?_
        refine RW.eqlI rfl rfl rfl ?_
        refine RW.pickB rfl rfl rfl rfl ?_
        refine RW.move rfl rfl ?_
        refine RW.guardT rfl rfl (by simp) ?_
        refine RW.move rfl rfl ?_
        refine RW.guardT rfl rfl (by simp) ?_
        refine RW.move rfl rfl ?_
        refine RW.guardT rfl rfl (by simp) ?_
        refine RW.call rfl ca17 rfl (fun w' hw' => Same_c w' _ _ _ _ _ _ _ _ (parseF (stripF h)) (hrd.ext hw'.ext (by simp)) (hrd3.ext hw'.ext (by simp)) (by have := hrd.len; omega) (fun g hg => by have := parseF_mem (stripF h) g hg; omega)) ?_
        refine RW.pickB rfl rfl (by simp) rfl ?_
        refine RW.move rfl rfl ?_
        refine RW.guardT rfl rfl rfl ?_
        refine RW.call rfl ca12 rfl (fun w' hw' => awake_c w' (hg.ext (hx3.trans0 hw'.ext))) ?_
        refine RW.pickB rfl rfl rfl rfl ?_
        refine RW.assign rfl rfl ?_
        refine RW.nil (EX.seq (CW.ret ?_))
        refine EX.fin1 Tryd.results6 rfl (fun wz hw => ?_)
        -- mq: done
        exact ⟨rfl, hx3.trans0 hw.ext⟩
    · skip
      refine RW.call rfl ca15 rfl (fun w' hw' => read_bad w' s (by omega) hf) ?_
      refine RW.move rfl rfl ?_
      refine RW.extract rfl rfl rfl ?_
      refine RW.extract rfl rfl rfl ?_
      refine RW.extract rfl rfl rfl ?_
      refine RW.assign rfl rfl ?_
      refine RW.assign rfl rfl ?_
      refine RW.assign rfl rfl ?_
      refine RW.nil (EX.seq (CW.seq ?_))
      -- mq: region
      refine CW.region ?_
      refine RW.move rfl rfl ?_
      refine RW.call rfl ca16 rfl (fun w' hw' => refRead_bad w' s (by omega) hf) ?_
      refine RW.move rfl rfl ?_
      refine RW.extract rfl rfl rfl ?_
      refine RW.extract rfl rfl rfl ?_
      refine RW.extract rfl rfl rfl ?_
      refine RW.assign rfl rfl ?_
      refine RW.assign rfl rfl ?_
      refine RW.assign rfl rfl ?_
      refine RW.nil (EX.seq (CW.seq (CW.seq (CW.region ?_))))
      refine RW.move rfl rfl ?_
      refine RW.not_ rfl rfl ?_
      refine RW.nil (EX.seq ?_)
      -- mq: cond
      refine CW.condT rfl (rfl) ?_
      refine CW.seq (CW.region ?_)
      refine RW.move rfl rfl ?_
      refine RW.eqlI rfl rfl rfl ?_
      refine RW.move rfl rfl ?_
      refine RW.guardT rfl rfl rfl ?_
      refine RW.move rfl rfl ?_
      refine RW.guardT rfl rfl rfl ?_
      refine RW.eqlI rfl rfl rfl ?_
      refine RW.pickB rfl rfl rfl rfl ?_
      refine RW.move rfl rfl ?_
      refine RW.guardT rfl rfl rfl ?_
      refine RW.move rfl rfl ?_
      refine RW.guardT rfl rfl rfl ?_
      refine RW.lenSl Tryd.underlying36 rfl rfl ?_
      refine RW.guardT rfl rfl rfl ?_
      refine RW.eqlI rfl rfl rfl ?_
      refine RW.pickB rfl rfl rfl rfl ?_
      refine RW.move rfl rfl ?_
      refine RW.guardT rfl rfl rfl ?_
      refine RW.call rfl ca12 rfl (fun w' hw' => awake_c w' (hg.ext hw'.ext)) ?_
      refine RW.pickB rfl rfl rfl rfl ?_
      refine RW.assign rfl rfl ?_
      refine RW.nil (EX.seq (CW.ret (EX.seqR ?_)))
      refine EX.fin1 Tryd.results6 rfl (fun wz hw => ?_)
      -- mq: done
      exact ⟨rfl, hw.ext⟩
end Go.Proofs.YtjplfonmdjnplaaDoor.Mq
