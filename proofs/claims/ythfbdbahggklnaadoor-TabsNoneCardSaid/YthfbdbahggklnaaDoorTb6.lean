/- tabs: the reference's List, Go; Ints -/
import Derived.Test.YthfbdbahggklnaaDoorTb5
namespace Go.Proofs.YthfbdbahggklnaaDoor.Mq
open Go Go.RowKit Go.Proofs

theorem refList_c (w : World) (F : Nat → Prop) (A : Option Addr) (m c : Nat) (bs : List Bool) (hr : Rd EB w F A m c bs) (hm : m ≤ 1000) :
    Calls Tryd.prog 21 [.slice A m c].toArray w (RetSl EInt w (listB bs)) := by
  have hlen := hr.len
  refine calls (n := 20) Tryd.func21 rfl Tryd.ntmps21 rfl ?_
  refine CW.sub (H' := SH w [] []) ?_ (Sub.refl _) (fun x hx => SH.start' _ _ hx)
  refine CW.seq (CW.region ?_)
  refine RW.assign rfl rfl ?_
  refine RW.nil (EX.seq (CW.seq (CW.region ?_)))
  refine RW.assign rfl rfl ?_
  refine RW.nil (EX.seq (CW.seq (CW.seq ?_)))
  -- mq: region
  refine CW.ownNil 3 1 ?_
  refine CW.region ?_
  refine RW.assign rfl rfl ?_
  refine RW.nil (EX.seq (CW.block ?_))
  -- mq: loop
  refine CW.loop (ι := Nat × Value) (fun k => [(0, .slice A m c), (3, k.2), (4, .int .i64 (k.1 : Int))]) (fun k => SH w [] [own 3 1 k.2 (listTo bs k.1).length (EInt.all (listTo bs k.1))]) (fun k => k.1 ≤ bs.length ∧ ∀ g, k.2.ownBlock = some g → w.heap.size ≤ g) (fun k => bs.length - k.1) ?_ ?_
  · exact fun w hw => ⟨(0, .slice none 0 0), ⟨by omega, by simp [Value.ownBlock]⟩, (by repeat (first | exact Sub.nil | refine Sub.cons (by rfl) ?_)), hw⟩
  · rintro ⟨k, v⟩ ⟨hk, hv⟩
    dsimp only at hk hv ⊢
    have hll := listTo_len bs k
    have hs := listTo_succ bs k
    refine CW.seq (CW.seq (CW.region ?_))
    refine RW.move rfl rfl ?_
    refine RW.move rfl rfl ?_
    refine RW.lenSl Tryd.underlying35 rfl rfl ?_
    refine RW.lss rfl rfl rfl ?_
    refine RW.nil (EX.seq ?_)
    -- mq: cond
    first | refine CW.condD rfl (fun hlt => ?_) (fun hlt => ?_) | refine CW.cond rfl (fun hlt => ?_) (fun hlt => ?_)
    · skip
      have h2' : k < bs.length := by omega
      obtain ⟨ad, hA, _, hcell⟩ := hr.at_ (gb_get h2')
      refine CW.skip (EX.seq (CW.seq (CW.block (CW.seq (CW.region ?_)))))
      refine RW.move rfl rfl ?_
      refine RW.move rfl rfl ?_
      refine RW.ixAddr (q := k) sl35 rfl rfl rfl hA (by omega) (by omega) ?_
      refine RW.load1 sc4 rfl rfl (fun w' hw' => hw'.base_cell (hcell 0 _ rfl) (by simp)) ?_
      refine RW.nil (EX.seq ?_)
      -- mq: cond
      first | refine CW.condD rfl (fun h2 => ?_) (fun h2 => ?_) | refine CW.cond rfl (fun h2 => ?_) (fun h2 => ?_)
      · skip
        rw [if_pos h2] at hs
        refine CW.region ?_
        refine RW.move rfl rfl ?_
        refine RW.move rfl rfl ?_
        refine RW.buildSlc sl42 rfl rfl rfl rfl (fun g17 hg17 hf17 => ?_)
        refine RW.append1 sl42 rfl rfl rfl (by first | exact Rem.head | exact Rem.tail Rem.head | exact Rem.tail (Rem.tail Rem.head) | exact Rem.tail (Rem.tail (Rem.tail Rem.head)) | exact Rem.tail (Rem.tail (Rem.tail (Rem.tail Rem.head))) | exact Rem.tail (Rem.tail (Rem.tail (Rem.tail (Rem.tail Rem.head)))) | exact Rem.tail (Rem.tail (Rem.tail (Rem.tail (Rem.tail (Rem.tail Rem.head)))))) (fun _ => by first | exact Upd.head | exact Upd.tail Upd.head | exact Upd.tail (Upd.tail Upd.head) | exact Upd.tail (Upd.tail (Upd.tail Upd.head)) | exact Upd.tail (Upd.tail (Upd.tail (Upd.tail Upd.head))) | exact Upd.tail (Upd.tail (Upd.tail (Upd.tail (Upd.tail Upd.head)))) | exact Upd.tail (Upd.tail (Upd.tail (Upd.tail (Upd.tail (Upd.tail Upd.head)))))) rfl (by repeat (first | exact Ones.nil | exact Enc.ones _ _ | refine Ones.cons rfl ?_)) (by simp only [maxLen]; omega) (by omega) (fun v18 hv18 => ?_)
        refine RW.assign rfl rfl ?_
        refine RW.nil (EX.bkN (EX.seq (CW.region ?_)))
        refine RW.move rfl rfl ?_
        refine RW.add rfl rfl rfl (wrap64 (by omega) (by omega)) ?_
        refine RW.assign rfl rfl ?_
        refine RW.nil ?_
        -- mq: loopend
        refine EX.lpN (k + 1, v18) ⟨by dsimp only; omega, fun g hg => by
            rcases hv18 g hg with h | h
            · exact hv g h
            · exact h.1⟩ (by dsimp only; omega) (by repeat (first | exact Sub.nil | refine Sub.cons (by rfl) ?_)) (fun w' hw' => ?_)
        dsimp only
        rw [hs, List.length_append, Enc.all_snoc]
        exact hw'
      · skip
        rw [if_neg (by simp [h2])] at hs
        refine CW.skip (EX.bkN (EX.seq (CW.region ?_)))
        refine RW.move rfl rfl ?_
        refine RW.add rfl rfl rfl (wrap64 (by omega) (by omega)) ?_
        refine RW.assign rfl rfl ?_
        refine RW.nil ?_
        -- mq: loopend
        refine EX.lpN (k + 1, v) ⟨by dsimp only; omega, hv⟩ (by dsimp only; omega) (by repeat (first | exact Sub.nil | refine Sub.cons (by rfl) ?_)) (fun w' hw' => ?_)
        dsimp only
        rw [hs]
        exact hw'
    · skip
      obtain rfl : k = bs.length := by omega
      refine CW.exit (EX.seqE (EX.lpE (EX.bkE (EX.seq (CW.seq (CW.region ?_))))))
      refine RW.move rfl rfl ?_
      refine RW.assign rfl rfl ?_
      refine RW.nil (EX.seq (CW.ret ?_))
      refine EX.fin1 Tryd.results21 rfl (fun wz hw => ?_)
      -- mq: done
      exact RetSl.of_own hw.ext (hw.has Has.head) rfl hv
theorem Ints_c (w : World) (F G : Nat → Prop) (A B : Option Addr) (n m c d : Nat) (l : List Int) (hx : Rd EInt w F A n c l) (hy : Rd EInt w G B m d l) (hn : n ≤ 1000000) :
    Calls Tryd.prog 19 [.slice A n c, .slice B m d].toArray w (fun e w' => e = .returned (.bool true) ∧ Ext [] w w') := by
  have hlx := hx.len
  obtain rfl : n = m := hlx.symm.trans hy.len
  refine calls (n := 26) Tryd.func19 rfl Tryd.ntmps19 rfl ?_
  refine CW.sub (H' := SH w [] []) ?_ (Sub.refl _) (fun x hx => SH.start' _ _ hx)
  refine CW.seq (CW.region ?_)
  refine RW.assign rfl rfl ?_
  refine RW.nil (EX.seq (CW.seq (CW.seq (CW.region ?_))))
  refine RW.move rfl rfl ?_
  refine RW.lenSl Tryd.underlying42 rfl rfl ?_
  refine RW.move rfl rfl ?_
  refine RW.lenSl Tryd.underlying42 rfl rfl ?_
  refine RW.neqI rfl rfl rfl ?_
  refine RW.nil (EX.seq ?_)
  -- mq: cond
  refine CW.condF rfl ((by simp)) ?_
  refine CW.skip (EX.seq (CW.seq (CW.seq (CW.region ?_))))
  refine RW.assign rfl rfl ?_
  refine RW.nil (EX.seq (CW.block ?_))
  -- mq: loop
  refine CW.loop (ι := Nat) (fun k => [(0, .slice A n c), (1, .slice B n d), (5, .int .i64 (k : Int))]) (fun _ => SH w [] []) (fun k => k ≤ n) (fun k => n - k) ?_ ?_
  · exact fun w hw => ⟨0, Nat.zero_le _, (by repeat (first | exact Sub.nil | refine Sub.cons (by rfl) ?_)), hw⟩
  · rintro k hk
    refine CW.seq (CW.seq (CW.region ?_))
    refine RW.move rfl rfl ?_
    refine RW.move rfl rfl ?_
    refine RW.lenSl Tryd.underlying42 rfl rfl ?_
    refine RW.lss rfl rfl rfl ?_
    refine RW.nil (EX.seq ?_)
    -- mq: cond
    first | refine CW.condD rfl (fun hlt => ?_) (fun hlt => ?_) | refine CW.cond rfl (fun hlt => ?_) (fun hlt => ?_)
    · skip
      obtain ⟨p, hp⟩ : ∃ p, l[k]? = some p := ⟨l[k]'(by omega), List.getElem?_eq_getElem _⟩
      obtain ⟨ad, hA, _, hcell⟩ := hx.at_ hp
      obtain ⟨bd, hB, _, hcell2⟩ := hy.at_ hp
      refine CW.skip (EX.seq (CW.seq (CW.block (CW.seq ?_))))
      refine CW.drawq mixed (by kernel_rfl) (fun _ hw => hw.drew) ?_
      refine DRq.cons rfl (RW.move rfl rfl RW.jn) ?_
      refine DRq.cons rfl (RW.move rfl rfl RW.jn) ?_
      refine DRq.cons rfl (RW.ixAddr (q := k) sl42 rfl rfl rfl (by first | rfl | assumption) (by omega) (by omega) RW.jn) ?_
      refine DRq.cons rfl (RW.load1 sc3 rfl rfl (fun w' hw' => hw'.base_cell (hcell 0 _ rfl) (by simp)) RW.jn) ?_
      refine DRq.cons rfl (RW.move rfl rfl RW.jn) ?_
      refine DRq.cons rfl (RW.move rfl rfl RW.jn) ?_
      refine DRq.cons rfl (RW.ixAddr (q := k) sl42 rfl rfl rfl (by first | rfl | assumption) (by omega) (by omega) RW.jn) ?_
      refine DRq.cons rfl (RW.load1 sc3 rfl rfl (fun w' hw' => hw'.base_cell (hcell2 0 _ rfl) (by simp)) RW.jn) ?_
      refine DRq.cons rfl (RW.neqI rfl rfl rfl RW.jn) ?_
      refine DRq.nil (EX.seq ?_)
      -- mq: cond
      refine CW.condF rfl ((by simp)) ?_
      refine CW.skip (EX.bkN (EX.seq (CW.region ?_)))
      refine RW.move rfl rfl ?_
      refine RW.add rfl rfl rfl (wrap64 (by omega) (by omega)) ?_
      refine RW.assign rfl rfl ?_
      refine RW.nil ?_
      -- mq: loopend
      exact EX.lpN (k + 1) (by omega) (by omega) (by repeat (first | exact Sub.nil | refine Sub.cons (by rfl) ?_)) (fun w' hw' => hw')
    · skip
      refine CW.exit (EX.seqE (EX.lpE (EX.bkE (EX.seq (CW.seq (CW.region ?_))))))
      refine RW.assign rfl rfl ?_
      refine RW.nil (EX.seq (CW.ret ?_))
      refine EX.fin1 Tryd.results19 rfl (fun wz hw => ?_)
      -- mq: done
      exact ⟨rfl, hw.ext⟩
/- Go -/
theorem iterTimes_up {bs : List Bool} (hp : 0 < bs.length) (x k : Int) : iter (afterB bs) (min (max 0 k) ((bs.length : Int) + 1)).toNat (clampB bs.length x) = timesB (afterB bs) bs.length x k := by
  unfold timesB
  have hc := clampB_lt (n := bs.length) x hp
  by_cases h : k ≤ (bs.length : Int)
  · congr 1; omega
  · rw [up_fix hc _ (show bs.length ≤ (min (max 0 k) ((bs.length : Int) + 1)).toNat by omega)]
    congr 1; omega
theorem iterTimes_down {bs : List Bool} (hp : 0 < bs.length) (x k : Int) : iter (beforeB bs) (min (max 0 k) ((bs.length : Int) + 1)).toNat (clampB bs.length x) = timesB (beforeB bs) bs.length x k := by
  unfold timesB
  have hc := clampB_lt (n := bs.length) x hp
  by_cases h : k ≤ (bs.length : Int)
  · congr 1; omega
  · rw [down_fix hc _ (show bs.length ≤ (min (max 0 k) ((bs.length : Int) + 1)).toNat by omega)]
    congr 1; omega
theorem goUp_c (w : World) (F : Nat → Prop) (A : Option Addr) (m c : Nat) (bs : List Bool) (hr : Rd EB w F A m c bs) (hm : 0 < m ∧ m ≤ 1000) (x k : Int) :
    Calls Tryd.prog 24 [.slice A m c, .int .i64 x, .int .i64 k, .int .i64 1].toArray w (fun e w' => e = .returned (.int .i64 (timesB (afterB bs) m x k : Int)) ∧ Ext [] w w') := by
  have hlen := hr.len
  subst hlen
  rw [← iterTimes_up hm.1]
  obtain ⟨x0, hx0, hx0l⟩ : ∃ x0, clampB bs.length x = x0 ∧ x0 < bs.length := ⟨_, rfl, clampB_lt x hm.1⟩
  obtain ⟨N, hN⟩ : ∃ N : Nat, (min (max 0 k) ((bs.length : Int) + 1)).toNat = N := ⟨_, rfl⟩
  rw [hx0, hN]
  unfold clampB at hx0
  have hF : ∀ y, y < bs.length → afterB bs y < bs.length := fun y hy => afterB_lt y hm.1
  refine calls (n := 64) Tryd.func24 rfl Tryd.ntmps24 rfl ?_
  refine CW.sub (H' := SH w [] []) ?_ (Sub.refl _) (fun x hx => SH.start' _ _ hx)
  refine CW.seq (CW.region ?_)
  refine RW.assign rfl rfl ?_
  refine RW.nil (EX.seq (CW.seq ?_))
  -- mq: seq
  refine CW.join ([(0, .slice A bs.length c), (1, .int .i64 (max 0 x)), (2, .int .i64 k), (3, .int .i64 1)]) (SH w [] []) ?_ ?_
  · skip
    refine CW.seq (CW.region ?_)
    refine RW.move rfl rfl ?_
    refine RW.lss rfl rfl rfl ?_
    refine RW.nil (EX.seq ?_)
    -- mq: cond
    first | refine CW.condD rfl (fun h1 => ?_) (fun h1 => ?_) | refine CW.cond rfl (fun h1 => ?_) (fun h1 => ?_)
    · skip
      refine CW.region ?_
      refine RW.assign rfl rfl ?_
      refine RW.nil ?_
      -- mq: joinend
      refine EX.jn (Sub.cons (by rfl) (Sub.cons ?_ (Sub.cons (by rfl) (Sub.cons (by rfl) Sub.nil)))) (fun _ h => h)
      show some _ = some _
      congr 2
      omega
    · skip
      refine CW.skip ?_
      -- mq: joinend
      refine EX.jn (Sub.cons (by rfl) (Sub.cons ?_ (Sub.cons (by rfl) (Sub.cons (by rfl) Sub.nil)))) (fun _ h => h)
      show some _ = some _
      congr 2
      omega
  · skip
    refine EX.seq (CW.seq ?_)
    -- mq: seq
    refine CW.join ([(0, .slice A bs.length c), (1, .int .i64 (x0 : Int)), (2, .int .i64 k), (3, .int .i64 1)]) (SH w [] []) ?_ ?_
    · skip
      refine CW.seq (CW.region ?_)
      refine RW.move rfl rfl ?_
      refine RW.move rfl rfl ?_
      refine RW.lenSl Tryd.underlying35 rfl rfl ?_
      refine RW.sub_ rfl rfl rfl (wrap64 (by omega) (by omega)) ?_
      refine RW.gtr rfl rfl rfl ?_
      refine RW.nil (EX.seq ?_)
      -- mq: cond
      first | refine CW.condD rfl (fun h1 => ?_) (fun h1 => ?_) | refine CW.cond rfl (fun h1 => ?_) (fun h1 => ?_)
      · skip
        refine CW.region ?_
        refine RW.move rfl rfl ?_
        refine RW.lenSl Tryd.underlying35 rfl rfl ?_
        refine RW.sub_ rfl rfl rfl (wrap64 (by omega) (by omega)) ?_
        refine RW.assign rfl rfl ?_
        refine RW.nil ?_
        -- mq: joinend
        refine EX.jn (Sub.cons (by rfl) (Sub.cons ?_ (Sub.cons (by rfl) (Sub.cons (by rfl) Sub.nil)))) (fun _ h => h)
        show some _ = some _
        congr 2
        omega
      · skip
        refine CW.skip ?_
        -- mq: joinend
        refine EX.jn (Sub.cons (by rfl) (Sub.cons ?_ (Sub.cons (by rfl) (Sub.cons (by rfl) Sub.nil)))) (fun _ h => h)
        show some _ = some _
        congr 2
        omega
    · skip
      refine EX.seq (CW.seq (CW.seq (CW.region ?_)))
      refine RW.assign rfl rfl ?_
      refine RW.nil (EX.seq (CW.block ?_))
      -- mq: loop
      refine CW.loop (ι := Nat) (fun j => [(0, .slice A bs.length c), (1, .int .i64 (iter (afterB bs) j x0 : Int)), (2, .int .i64 k), (3, .int .i64 1), (9, .int .i64 (j : Int))]) (fun _ => SH w [] []) (fun j => j ≤ N) (fun j => N - j) ?_ ?_
      · exact fun w hw => ⟨0, Nat.zero_le _, (by repeat (first | exact Sub.nil | refine Sub.cons (by rfl) ?_)), hw⟩
      · intro j hj
        have hxl := iter_lt hF j x0 hx0l
        have hit : iter (afterB bs) (j + 1) x0 = afterB bs (iter (afterB bs) j x0) := rfl
        generalize hy : iter (afterB bs) j x0 = y at *
        refine CW.seq (CW.seq (CW.region ?_))
        refine RW.move rfl rfl ?_
        refine RW.move rfl rfl ?_
        refine RW.lss rfl rfl rfl ?_
        refine RW.move rfl rfl ?_
        -- mq: guard slot 24
        refine RW.casesB 24 rfl (fun h1 => ?_) (fun h1 => ?_)
        · skip
          have h1p := of_decide_eq_true h1
          refine RW.guardT rfl rfl h1 ?_
          refine RW.move rfl rfl ?_
          refine RW.guardT rfl rfl h1 ?_
          refine RW.move rfl rfl ?_
          refine RW.guardT rfl rfl h1 ?_
          refine RW.lenSl Tryd.underlying35 rfl rfl ?_
          refine RW.guardT rfl rfl h1 ?_
          refine RW.leq rfl rfl rfl ?_
          refine RW.pickB rfl rfl h1 rfl ?_
          refine RW.nil (EX.seq ?_)
          -- mq: cond
          first | refine CW.condD rfl (fun h2 => ?_) (fun h2 => ?_) | refine CW.cond rfl (fun h2 => ?_) (fun h2 => ?_)
          · skip
            refine CW.skip (EX.seq (CW.seq (CW.block (CW.seq (CW.region ?_)))))
            refine RW.move rfl rfl ?_
            refine RW.move rfl rfl ?_
            refine RW.add rfl rfl rfl (wrap64 (by omega) (by omega)) ?_
            refine RW.assign rfl rfl ?_
            refine RW.nil (EX.seq (CW.seq (CW.block ?_)))
            -- mq: loop
            refine CW.loop (ι := Nat) (fun a => [(0, .slice A bs.length c), (1, .int .i64 (y : Int)), (2, .int .i64 k), (3, .int .i64 1), (9, .int .i64 (j : Int)), (10, .int .i64 (a : Int))]) (fun _ => SH w [] []) (fun a => y < a ∧ (a = y + 1 ∨ a < bs.length) ∧ ∀ z, y < z → z < a → gb bs z = false) (fun a => 2000 - a) ?_ ?_
            · exact fun w hw => ⟨y + 1, ⟨by omega, .inl rfl, by intro z h1 h2; omega⟩, (by repeat (first | exact Sub.nil | refine Sub.cons (by rfl) ?_)), hw⟩
            · rintro a ⟨ha1, ha2, hno⟩
              have hout : ∀ (hst : ¬ (a < bs.length - 1) ∨ gb bs a = true), (if a < bs.length then a else y) = afterB bs y := by
                intro hst
                by_cases hal : a < bs.length
                · rw [if_pos hal]
                  by_cases hga : gb bs a = true
                  · exact (afterB_hit ha1 hga hno).symm
                  · have hal2 : a = bs.length - 1 := by
                      rcases hst with h | h
                      · omega
                      · exact absurd h hga
                    rw [afterB_none (fun z hz1 hz2 => ?_), hal2]
                    rcases Nat.lt_or_ge z a with h | h
                    · exact hno z hz1 h
                    · obtain rfl : z = a := by omega
                      simpa using hga
                · rw [if_neg hal]
                  rw [afterB_none (fun z hz1 hz2 => hno z hz1 (by omega))]
                  omega
              refine CW.seq (CW.seq (CW.region ?_))
              refine RW.move rfl rfl ?_
              refine RW.gtr rfl rfl rfl ?_
              refine RW.move rfl rfl ?_
              -- mq: guard slot 37
              refine RW.guardT rfl rfl (decide_eq_true (by omega)) ?_
              refine RW.move rfl rfl ?_
              refine RW.guardT rfl rfl (decide_eq_true (by omega)) ?_
              refine RW.move rfl rfl ?_
              refine RW.guardT rfl rfl (decide_eq_true (by omega)) ?_
              refine RW.lenSl Tryd.underlying35 rfl rfl ?_
              refine RW.guardT rfl rfl (decide_eq_true (by omega)) ?_
              refine RW.sub_ rfl rfl rfl (wrap64 (by omega) (by omega)) ?_
              refine RW.guardT rfl rfl (decide_eq_true (by omega)) ?_
              refine RW.lss rfl rfl rfl ?_
              refine RW.pickB rfl rfl (decide_eq_true (by omega)) rfl ?_
              refine RW.move rfl rfl ?_
              -- mq: guard slot 44
              refine RW.casesB 44 rfl (fun h3 => ?_) (fun h3 => ?_)
              · skip
                have h3p := of_decide_eq_true h3
                have hal : a < bs.length := by omega
                obtain ⟨ad, hA, _, hcell⟩ := hr.at_ (gb_get hal)
                refine RW.guardT rfl rfl h3 ?_
                refine RW.move rfl rfl ?_
                refine RW.guardT rfl rfl h3 ?_
                refine RW.move rfl rfl ?_
                refine RW.guardT rfl rfl h3 ?_
                refine RW.ixAddr (q := a) sl35 rfl rfl rfl hA (by omega) (by omega) ?_
                refine RW.guardT rfl rfl h3 ?_
                refine RW.load1 sc4 rfl rfl (fun w' hw' => hw'.base_cell (hcell 0 _ rfl) (by simp)) ?_
                refine RW.guardT rfl rfl h3 ?_
                refine RW.not_ rfl rfl ?_
                refine RW.pickB rfl rfl h3 rfl ?_
                refine RW.nil (EX.seq ?_)
                -- mq: cond
                cases hga : gb bs a with
                | false =>
                  refine CW.condT rfl (rfl) ?_
                  refine CW.skip (EX.seq (CW.block (CW.region ?_)))
                  refine RW.move rfl rfl ?_
                  refine RW.move rfl rfl ?_
                  refine RW.add rfl rfl rfl (wrap64 (by omega) (by omega)) ?_
                  refine RW.assign rfl rfl ?_
                  refine RW.nil (EX.bkN ?_)
                  -- mq: loopend
                  refine EX.lpN (a + 1) ⟨by omega, .inr (by omega), fun z hz1 hz2 => ?_⟩ (by omega) (by repeat (first | exact Sub.nil | refine Sub.cons (by rfl) ?_)) (fun w' hw' => hw')
                  rcases Nat.lt_or_ge z a with h | h
                  · exact hno z hz1 h
                  · obtain rfl : z = a := by omega
                    exact hga
                | true =>
                  have ho := hout (.inr hga)
                  rw [if_pos hal] at ho
                  refine CW.condF rfl (rfl) ?_
                  refine CW.exit (EX.seqE (EX.lpE (EX.bkE (EX.seq (CW.seq (CW.region ?_))))))
                  refine RW.move rfl rfl ?_
                  refine RW.geq rfl rfl rfl ?_
                  refine RW.move rfl rfl ?_
                  -- mq: guard slot 56
                  refine RW.guardT rfl rfl (decide_eq_true (by omega)) ?_
                  refine RW.move rfl rfl ?_
                  refine RW.guardT rfl rfl (decide_eq_true (by omega)) ?_
                  refine RW.move rfl rfl ?_
                  refine RW.guardT rfl rfl (decide_eq_true (by omega)) ?_
                  refine RW.lenSl Tryd.underlying35 rfl rfl ?_
                  refine RW.guardT rfl rfl (decide_eq_true (by omega)) ?_
                  refine RW.lss rfl rfl rfl ?_
                  refine RW.pickB rfl rfl (decide_eq_true (by omega)) rfl ?_
                  refine RW.nil (EX.seq ?_)
                  -- mq: cond
                  refine CW.condT rfl ((decide_eq_true (by omega))) ?_
                  refine CW.region ?_
                  refine RW.move rfl rfl ?_
                  refine RW.assign rfl rfl ?_
                  refine RW.nil (EX.bkN (EX.seq (CW.region ?_)))
                  refine RW.move rfl rfl ?_
                  refine RW.add rfl rfl rfl (wrap64 (by omega) (by omega)) ?_
                  refine RW.assign rfl rfl ?_
                  refine RW.nil ?_
                  -- mq: loopend
                  refine EX.lpN (j + 1) (by omega) (by omega) (Sub.cons (by rfl) (Sub.cons ?_ (Sub.cons (by rfl) (Sub.cons (by rfl) (Sub.cons (by rfl) Sub.nil))))) (fun w' hw' => hw')
                  rw [hit, ← ho]
                  rfl
              · skip
                have h3p := of_decide_eq_false h3
                have ho := hout (.inl (by omega))
                refine RW.guardF rfl rfl rfl h3 ?_
                refine RW.guardF rfl rfl rfl h3 ?_
                refine RW.guardF rfl rfl rfl h3 ?_
                refine RW.guardF rfl rfl rfl h3 ?_
                refine RW.guardF rfl rfl rfl h3 ?_
                refine RW.pickC rfl rfl h3 rfl ?_
                refine RW.nil (EX.seq ?_)
                -- mq: cond
                refine CW.condF rfl (rfl) ?_
                refine CW.exit (EX.seqE (EX.lpE (EX.bkE (EX.seq (CW.seq (CW.region ?_))))))
                refine RW.move rfl rfl ?_
                refine RW.geq rfl rfl rfl ?_
                refine RW.move rfl rfl ?_
                -- mq: guard slot 56
                refine RW.guardT rfl rfl (decide_eq_true (by omega)) ?_
                refine RW.move rfl rfl ?_
                refine RW.guardT rfl rfl (decide_eq_true (by omega)) ?_
                refine RW.move rfl rfl ?_
                refine RW.guardT rfl rfl (decide_eq_true (by omega)) ?_
                refine RW.lenSl Tryd.underlying35 rfl rfl ?_
                refine RW.guardT rfl rfl (decide_eq_true (by omega)) ?_
                refine RW.lss rfl rfl rfl ?_
                refine RW.pickB rfl rfl (decide_eq_true (by omega)) rfl ?_
                refine RW.nil (EX.seq ?_)
                -- mq: cond
                first | refine CW.condD rfl (fun h5 => ?_) (fun h5 => ?_) | refine CW.cond rfl (fun h5 => ?_) (fun h5 => ?_)
                · skip
                  rw [if_pos (by omega)] at ho
                  refine CW.region ?_
                  refine RW.move rfl rfl ?_
                  refine RW.assign rfl rfl ?_
                  refine RW.nil (EX.bkN (EX.seq (CW.region ?_)))
                  refine RW.move rfl rfl ?_
                  refine RW.add rfl rfl rfl (wrap64 (by omega) (by omega)) ?_
                  refine RW.assign rfl rfl ?_
                  refine RW.nil ?_
                  -- mq: loopend
                  refine EX.lpN (j + 1) (by omega) (by omega) (Sub.cons (by rfl) (Sub.cons ?_ (Sub.cons (by rfl) (Sub.cons (by rfl) (Sub.cons (by rfl) Sub.nil))))) (fun w' hw' => hw')
                  rw [hit, ← ho]
                  rfl
                · skip
                  rw [if_neg (by omega)] at ho
                  refine CW.skip (EX.bkN (EX.seq (CW.region ?_)))
                  refine RW.move rfl rfl ?_
                  refine RW.add rfl rfl rfl (wrap64 (by omega) (by omega)) ?_
                  refine RW.assign rfl rfl ?_
                  refine RW.nil ?_
                  -- mq: loopend
                  refine EX.lpN (j + 1) (by omega) (by omega) (Sub.cons (by rfl) (Sub.cons ?_ (Sub.cons (by rfl) (Sub.cons (by rfl) (Sub.cons (by rfl) Sub.nil))))) (fun w' hw' => hw')
                  rw [hit, ← ho]
                  rfl
          · skip
            obtain rfl : j = N := by omega
            refine CW.exit (EX.seqE (EX.lpE (EX.bkE (EX.seq (CW.seq (CW.region ?_))))))
            refine RW.move rfl rfl ?_
            refine RW.assign rfl rfl ?_
            refine RW.nil (EX.seq (CW.ret ?_))
            refine EX.fin1 Tryd.results24 rfl (fun wz hw => ?_)
            -- mq: done
            exact ⟨by rw [hy], hw.ext⟩
        · skip
          have h1p := of_decide_eq_false h1
          obtain rfl : j = N := by omega
          refine RW.guardF rfl rfl rfl h1 ?_
          refine RW.guardF rfl rfl rfl h1 ?_
          refine RW.guardF rfl rfl rfl h1 ?_
          refine RW.guardF rfl rfl rfl h1 ?_
          refine RW.pickC rfl rfl h1 rfl ?_
          refine RW.nil (EX.seq ?_)
          -- mq: cond
          refine CW.condF rfl (rfl) ?_
          refine CW.exit (EX.seqE (EX.lpE (EX.bkE (EX.seq (CW.seq (CW.region ?_))))))
          refine RW.move rfl rfl ?_
          refine RW.assign rfl rfl ?_
          refine RW.nil (EX.seq (CW.ret ?_))
          refine EX.fin1 Tryd.results24 rfl (fun wz hw => ?_)
          -- mq: done
          exact ⟨by rw [hy], hw.ext⟩
theorem goDown_c (w : World) (F : Nat → Prop) (A : Option Addr) (m c : Nat) (bs : List Bool) (hr : Rd EB w F A m c bs) (hm : 0 < m ∧ m ≤ 1000) (x k : Int) :
    Calls Tryd.prog 24 [.slice A m c, .int .i64 x, .int .i64 k, .int .i64 (-1)].toArray w (fun e w' => e = .returned (.int .i64 (timesB (beforeB bs) m x k : Int)) ∧ Ext [] w w') := by
  have hlen := hr.len
  subst hlen
  rw [← iterTimes_down hm.1]
  obtain ⟨x0, hx0, hx0l⟩ : ∃ x0, clampB bs.length x = x0 ∧ x0 < bs.length := ⟨_, rfl, clampB_lt x hm.1⟩
  obtain ⟨N, hN⟩ : ∃ N : Nat, (min (max 0 k) ((bs.length : Int) + 1)).toNat = N := ⟨_, rfl⟩
  rw [hx0, hN]
  unfold clampB at hx0
  have hF : ∀ y, y < bs.length → beforeB bs y < bs.length := fun y hy => by have := beforeB_le bs y; omega
  refine calls (n := 64) Tryd.func24 rfl Tryd.ntmps24 rfl ?_
  refine CW.sub (H' := SH w [] []) ?_ (Sub.refl _) (fun x hx => SH.start' _ _ hx)
  refine CW.seq (CW.region ?_)
  refine RW.assign rfl rfl ?_
  refine RW.nil (EX.seq (CW.seq ?_))
  -- mq: seq
  refine CW.join ([(0, .slice A bs.length c), (1, .int .i64 (max 0 x)), (2, .int .i64 k), (3, .int .i64 (-1))]) (SH w [] []) ?_ ?_
  · skip
    refine CW.seq (CW.region ?_)
    refine RW.move rfl rfl ?_
    refine RW.lss rfl rfl rfl ?_
    refine RW.nil (EX.seq ?_)
    -- mq: cond
    first | refine CW.condD rfl (fun h1 => ?_) (fun h1 => ?_) | refine CW.cond rfl (fun h1 => ?_) (fun h1 => ?_)
    · skip
      refine CW.region ?_
      refine RW.assign rfl rfl ?_
      refine RW.nil ?_
      -- mq: joinend
      refine EX.jn (Sub.cons (by rfl) (Sub.cons ?_ (Sub.cons (by rfl) (Sub.cons (by rfl) Sub.nil)))) (fun _ h => h)
      show some _ = some _
      congr 2
      omega
    · skip
      refine CW.skip ?_
      -- mq: joinend
      refine EX.jn (Sub.cons (by rfl) (Sub.cons ?_ (Sub.cons (by rfl) (Sub.cons (by rfl) Sub.nil)))) (fun _ h => h)
      show some _ = some _
      congr 2
      omega
  · skip
    refine EX.seq (CW.seq ?_)
    -- mq: seq
    refine CW.join ([(0, .slice A bs.length c), (1, .int .i64 (x0 : Int)), (2, .int .i64 k), (3, .int .i64 (-1))]) (SH w [] []) ?_ ?_
    · skip
      refine CW.seq (CW.region ?_)
      refine RW.move rfl rfl ?_
      refine RW.move rfl rfl ?_
      refine RW.lenSl Tryd.underlying35 rfl rfl ?_
      refine RW.sub_ rfl rfl rfl (wrap64 (by omega) (by omega)) ?_
      refine RW.gtr rfl rfl rfl ?_
      refine RW.nil (EX.seq ?_)
      -- mq: cond
      first | refine CW.condD rfl (fun h1 => ?_) (fun h1 => ?_) | refine CW.cond rfl (fun h1 => ?_) (fun h1 => ?_)
      · skip
        refine CW.region ?_
        refine RW.move rfl rfl ?_
        refine RW.lenSl Tryd.underlying35 rfl rfl ?_
        refine RW.sub_ rfl rfl rfl (wrap64 (by omega) (by omega)) ?_
        refine RW.assign rfl rfl ?_
        refine RW.nil ?_
        -- mq: joinend
        refine EX.jn (Sub.cons (by rfl) (Sub.cons ?_ (Sub.cons (by rfl) (Sub.cons (by rfl) Sub.nil)))) (fun _ h => h)
        show some _ = some _
        congr 2
        omega
      · skip
        refine CW.skip ?_
        -- mq: joinend
        refine EX.jn (Sub.cons (by rfl) (Sub.cons ?_ (Sub.cons (by rfl) (Sub.cons (by rfl) Sub.nil)))) (fun _ h => h)
        show some _ = some _
        congr 2
        omega
    · skip
      refine EX.seq (CW.seq (CW.seq (CW.region ?_)))
      refine RW.assign rfl rfl ?_
      refine RW.nil (EX.seq (CW.block ?_))
      -- mq: loop
      refine CW.loop (ι := Nat) (fun j => [(0, .slice A bs.length c), (1, .int .i64 (iter (beforeB bs) j x0 : Int)), (2, .int .i64 k), (3, .int .i64 (-1)), (9, .int .i64 (j : Int))]) (fun _ => SH w [] []) (fun j => j ≤ N) (fun j => N - j) ?_ ?_
      · exact fun w hw => ⟨0, Nat.zero_le _, (by repeat (first | exact Sub.nil | refine Sub.cons (by rfl) ?_)), hw⟩
      · intro j hj
        have hxl := iter_lt hF j x0 hx0l
        have hit : iter (beforeB bs) (j + 1) x0 = beforeB bs (iter (beforeB bs) j x0) := rfl
        generalize hy : iter (beforeB bs) j x0 = y at *
        refine CW.seq (CW.seq (CW.region ?_))
        refine RW.move rfl rfl ?_
        refine RW.move rfl rfl ?_
        refine RW.lss rfl rfl rfl ?_
        refine RW.move rfl rfl ?_
        -- mq: guard slot 24
        refine RW.casesB 24 rfl (fun h1 => ?_) (fun h1 => ?_)
        · skip
          have h1p := of_decide_eq_true h1
          refine RW.guardT rfl rfl h1 ?_
          refine RW.move rfl rfl ?_
          refine RW.guardT rfl rfl h1 ?_
          refine RW.move rfl rfl ?_
          refine RW.guardT rfl rfl h1 ?_
          refine RW.lenSl Tryd.underlying35 rfl rfl ?_
          refine RW.guardT rfl rfl h1 ?_
          refine RW.leq rfl rfl rfl ?_
          refine RW.pickB rfl rfl h1 rfl ?_
          refine RW.nil (EX.seq ?_)
          -- mq: cond
          first | refine CW.condD rfl (fun h2 => ?_) (fun h2 => ?_) | refine CW.cond rfl (fun h2 => ?_) (fun h2 => ?_)
          · skip
            refine CW.skip (EX.seq (CW.seq (CW.block (CW.seq (CW.region ?_)))))
            refine RW.move rfl rfl ?_
            refine RW.move rfl rfl ?_
            refine RW.add rfl rfl rfl (wrap64 (by omega) (by omega)) ?_
            refine RW.assign rfl rfl ?_
            refine RW.nil (EX.seq (CW.seq (CW.block ?_)))
            -- mq: loop
            refine CW.loop (ι := Nat) (fun a => [(0, .slice A bs.length c), (1, .int .i64 (y : Int)), (2, .int .i64 k), (3, .int .i64 (-1)), (9, .int .i64 (j : Int)), (10, .int .i64 ((a : Int) - 1))]) (fun _ => SH w [] []) (fun a => a ≤ y ∧ (a = 0 → y = 0) ∧ ∀ z, a ≤ z → z < y → gb bs z = false) (fun a => a) ?_ ?_
            · exact fun w hw => ⟨y, ⟨by omega, fun h => h, by intro z h1 h2; omega⟩, (by repeat (first | exact Sub.nil | refine Sub.cons (by rfl) ?_)), hw⟩
            · rintro a' ⟨ha1, ha2, hno⟩
              have hout : ∀ (hst : ¬ (1 < a') ∨ gb bs (a' - 1) = true), (if 0 < a' then a' - 1 else y) = beforeB bs y := by
                intro hst
                by_cases hal : 0 < a'
                · rw [if_pos hal]
                  by_cases hga : gb bs (a' - 1) = true
                  · exact (beforeB_hit (by omega) hga (fun z hz1 hz2 => hno z (by omega) hz2)).symm
                  · have hal2 : a' = 1 := by
                      rcases hst with h | h
                      · omega
                      · exact absurd h hga
                    rw [beforeB_none (fun z hz => ?_), hal2]
                    rcases Nat.lt_or_ge z a' with h | h
                    · obtain rfl : z = a' - 1 := by omega
                      simpa using hga
                    · exact hno z h hz
                · rw [if_neg hal]
                  obtain rfl : y = 0 := ha2 (by omega)
                  rfl
              refine CW.seq (CW.seq (CW.region ?_))
              refine RW.move rfl rfl ?_
              refine RW.gtr rfl rfl rfl ?_
              refine RW.move rfl rfl ?_
              -- mq: guard slot 37
              refine RW.casesB 37 rfl (fun h3 => ?_) (fun h3 => ?_)
              · skip
                have h3p := of_decide_eq_true h3
                obtain ⟨a, rfl⟩ : ∃ a, a' = a + 1 := ⟨a' - 1, by omega⟩
                have hal : a < bs.length := by omega
                rw [show ((a + 1 : Nat) : Int) - 1 = (a : Int) by omega]
                rw [Nat.add_sub_cancel] at hout
                obtain ⟨ad, hA, _, hcell⟩ := hr.at_ (gb_get hal)
                refine RW.guardT rfl rfl (decide_eq_true (by omega)) ?_
                refine RW.move rfl rfl ?_
                refine RW.guardT rfl rfl (decide_eq_true (by omega)) ?_
                refine RW.move rfl rfl ?_
                refine RW.guardT rfl rfl (decide_eq_true (by omega)) ?_
                refine RW.lenSl Tryd.underlying35 rfl rfl ?_
                refine RW.guardT rfl rfl (decide_eq_true (by omega)) ?_
                refine RW.sub_ rfl rfl rfl (wrap64 (by omega) (by omega)) ?_
                refine RW.guardT rfl rfl (decide_eq_true (by omega)) ?_
                refine RW.lss rfl rfl rfl ?_
                refine RW.pickB rfl rfl (decide_eq_true (by omega)) rfl ?_
                refine RW.move rfl rfl ?_
                refine RW.guardT rfl rfl (decide_eq_true (by omega)) ?_
                refine RW.move rfl rfl ?_
                refine RW.guardT rfl rfl (decide_eq_true (by omega)) ?_
                refine RW.move rfl rfl ?_
                refine RW.guardT rfl rfl (decide_eq_true (by omega)) ?_
                refine RW.ixAddr (q := a) sl35 rfl rfl rfl hA (by omega) (by omega) ?_
                refine RW.guardT rfl rfl (decide_eq_true (by omega)) ?_
                refine RW.load1 sc4 rfl rfl (fun w' hw' => hw'.base_cell (hcell 0 _ rfl) (by simp)) ?_
                refine RW.guardT rfl rfl (decide_eq_true (by omega)) ?_
                refine RW.not_ rfl rfl ?_
                refine RW.pickB rfl rfl (decide_eq_true (by omega)) rfl ?_
                refine RW.nil (EX.seq ?_)
                -- mq: cond
                cases hga : gb bs a with
                | false =>
                  refine CW.condT rfl (rfl) ?_
                  refine CW.skip (EX.seq (CW.block (CW.region ?_)))
                  refine RW.move rfl rfl ?_
                  refine RW.move rfl rfl ?_
                  refine RW.add rfl rfl rfl (wrap64 (by omega) (by omega)) ?_
                  refine RW.assign rfl rfl ?_
                  refine RW.nil (EX.bkN ?_)
                  -- mq: loopend
                  refine EX.lpN a ⟨by omega, by omega, fun z hz1 hz2 => ?_⟩ (by omega) (by repeat (first | exact Sub.nil | refine Sub.cons (by rfl) ?_)) (fun w' hw' => hw')
                  rcases Nat.lt_or_ge a z with h | h
                  · exact hno z h hz2
                  · obtain rfl : z = a := by omega
                    exact hga
                | true =>
                  have ho := hout (.inr hga)
                  rw [if_pos (by omega)] at ho
                  refine CW.condF rfl (rfl) ?_
                  refine CW.exit (EX.seqE (EX.lpE (EX.bkE (EX.seq (CW.seq (CW.region ?_))))))
                  refine RW.move rfl rfl ?_
                  refine RW.geq rfl rfl rfl ?_
                  refine RW.move rfl rfl ?_
                  -- mq: guard slot 56
                  refine RW.guardT rfl rfl (decide_eq_true (by omega)) ?_
                  refine RW.move rfl rfl ?_
                  refine RW.guardT rfl rfl (decide_eq_true (by omega)) ?_
                  refine RW.move rfl rfl ?_
                  refine RW.guardT rfl rfl (decide_eq_true (by omega)) ?_
                  refine RW.lenSl Tryd.underlying35 rfl rfl ?_
                  refine RW.guardT rfl rfl (decide_eq_true (by omega)) ?_
                  refine RW.lss rfl rfl rfl ?_
                  refine RW.pickB rfl rfl (decide_eq_true (by omega)) rfl ?_
                  refine RW.nil (EX.seq ?_)
                  -- mq: cond
                  refine CW.condT rfl ((decide_eq_true (by omega))) ?_
                  refine CW.region ?_
                  refine RW.move rfl rfl ?_
                  refine RW.assign rfl rfl ?_
                  refine RW.nil (EX.bkN (EX.seq (CW.region ?_)))
                  refine RW.move rfl rfl ?_
                  refine RW.add rfl rfl rfl (wrap64 (by omega) (by omega)) ?_
                  refine RW.assign rfl rfl ?_
                  refine RW.nil ?_
                  -- mq: loopend
                  refine EX.lpN (j + 1) (by omega) (by omega) (Sub.cons (by rfl) (Sub.cons ?_ (Sub.cons (by rfl) (Sub.cons (by rfl) (Sub.cons (by rfl) Sub.nil))))) (fun w' hw' => hw')
                  rw [hit, ← ho]
                  rfl
              · skip
                have h3p := of_decide_eq_false h3
                have ho := hout (.inl (by omega))
                refine RW.guardF rfl rfl rfl h3 ?_
                refine RW.guardF rfl rfl rfl h3 ?_
                refine RW.guardF rfl rfl rfl h3 ?_
                refine RW.guardF rfl rfl rfl h3 ?_
                refine RW.guardF rfl rfl rfl h3 ?_
                refine RW.pickC rfl rfl h3 rfl ?_
                refine RW.move rfl rfl ?_
                refine RW.guardF rfl rfl rfl rfl ?_
                refine RW.guardF rfl rfl rfl rfl ?_
                refine RW.guardF rfl rfl rfl rfl ?_
                refine RW.guardF rfl rfl rfl rfl ?_
                refine RW.guardF rfl rfl rfl rfl ?_
                refine RW.pickC rfl rfl rfl rfl ?_
                refine RW.nil (EX.seq ?_)
                -- mq: cond
                refine CW.condF rfl (rfl) ?_
                refine CW.exit (EX.seqE (EX.lpE (EX.bkE (EX.seq (CW.seq (CW.region ?_))))))
                refine RW.move rfl rfl ?_
                refine RW.geq rfl rfl rfl ?_
                refine RW.move rfl rfl ?_
                -- mq: guard slot 56
                refine RW.casesB 56 rfl (fun h5 => ?_) (fun h5 => ?_)
                · skip
                  have h5p := of_decide_eq_true h5
                  refine RW.guardT rfl rfl h5 ?_
                  refine RW.move rfl rfl ?_
                  refine RW.guardT rfl rfl h5 ?_
                  refine RW.move rfl rfl ?_
                  refine RW.guardT rfl rfl h5 ?_
                  refine RW.lenSl Tryd.underlying35 rfl rfl ?_
                  refine RW.guardT rfl rfl h5 ?_
                  refine RW.lss rfl rfl rfl ?_
                  refine RW.pickB rfl rfl h5 rfl ?_
                  refine RW.nil (EX.seq ?_)
                  -- mq: cond
                  refine CW.condT rfl ((decide_eq_true (by omega))) ?_
                  rw [if_pos (by omega)] at ho
                  refine CW.region ?_
                  refine RW.move rfl rfl ?_
                  refine RW.assign rfl rfl ?_
                  refine RW.nil (EX.bkN (EX.seq (CW.region ?_)))
                  refine RW.move rfl rfl ?_
                  refine RW.add rfl rfl rfl (wrap64 (by omega) (by omega)) ?_
                  refine RW.assign rfl rfl ?_
                  refine RW.nil ?_
                  -- mq: loopend
                  refine EX.lpN (j + 1) (by omega) (by omega) (Sub.cons (by rfl) (Sub.cons ?_ (Sub.cons (by rfl) (Sub.cons (by rfl) (Sub.cons (by rfl) Sub.nil))))) (fun w' hw' => hw')
                  rw [hit, ← ho]
                  show some (Value.int .i64 ((a' : Int) - 1)) = some _
                  congr 2
                  omega
                · skip
                  have h5p := of_decide_eq_false h5
                  refine RW.guardF rfl rfl rfl h5 ?_
                  refine RW.guardF rfl rfl rfl h5 ?_
                  refine RW.guardF rfl rfl rfl h5 ?_
                  refine RW.guardF rfl rfl rfl h5 ?_
                  refine RW.pickC rfl rfl h5 rfl ?_
                  refine RW.nil (EX.seq ?_)
                  -- mq: cond
                  refine CW.condF rfl (rfl) ?_
                  rw [if_neg (by omega)] at ho
                  refine CW.skip (EX.bkN (EX.seq (CW.region ?_)))
                  refine RW.move rfl rfl ?_
                  refine RW.add rfl rfl rfl (wrap64 (by omega) (by omega)) ?_
                  refine RW.assign rfl rfl ?_
                  refine RW.nil ?_
                  -- mq: loopend
                  refine EX.lpN (j + 1) (by omega) (by omega) (Sub.cons (by rfl) (Sub.cons ?_ (Sub.cons (by rfl) (Sub.cons (by rfl) (Sub.cons (by rfl) Sub.nil))))) (fun w' hw' => hw')
                  rw [hit, ← ho]
                  rfl
          · skip
            obtain rfl : j = N := by omega
            refine CW.exit (EX.seqE (EX.lpE (EX.bkE (EX.seq (CW.seq (CW.region ?_))))))
            refine RW.move rfl rfl ?_
            refine RW.assign rfl rfl ?_
            refine RW.nil (EX.seq (CW.ret ?_))
            refine EX.fin1 Tryd.results24 rfl (fun wz hw => ?_)
            -- mq: done
            exact ⟨by rw [hy], hw.ext⟩
        · skip
          have h1p := of_decide_eq_false h1
          obtain rfl : j = N := by omega
          refine RW.guardF rfl rfl rfl h1 ?_
          refine RW.guardF rfl rfl rfl h1 ?_
          refine RW.guardF rfl rfl rfl h1 ?_
          refine RW.guardF rfl rfl rfl h1 ?_
          refine RW.pickC rfl rfl h1 rfl ?_
          refine RW.nil (EX.seq ?_)
          -- mq: cond
          refine CW.condF rfl (rfl) ?_
          refine CW.exit (EX.seqE (EX.lpE (EX.bkE (EX.seq (CW.seq (CW.region ?_))))))
          refine RW.move rfl rfl ?_
          refine RW.assign rfl rfl ?_
          refine RW.nil (EX.seq (CW.ret ?_))
          refine EX.fin1 Tryd.results24 rfl (fun wz hw => ?_)
          -- mq: done
          exact ⟨by rw [hy], hw.ext⟩
end Go.Proofs.YthfbdbahggklnaaDoor.Mq
