/- walks of the reference: Flow, Line, Same of rows; Great -/
import Derived.Test.YtmdmdlfdijdhgaaRef1
namespace Go.Proofs.Ytmdmdlfdijdhgaa.Mq
open Go Go.RowKit Go.Proofs

theorem refFlow_c (w : World) (F : Nat → Prop) (A : Option Addr) (n c : Nat) (rows : List RowL) (hr : RdRows w F A n c rows) (hn : n ≤ 1000000) (hs : sumLen rows ≤ 1000000) :
    Calls Try.prog 22 [.slice A n c].toArray w (RetSl ECell w (flowF rows)) := by
  have hl := hr.len
  refine calls (n := 49) Try.func22 rfl Try.ntmps22 rfl ?_
  refine CW.sub (H' := SH w [] []) ?_ (Sub.refl _) (fun x hx => SH.start' _ _ hx)
  refine CW.ownNil 34 8 ?_
  refine CW.seq (CW.region ?_)
  refine RW.assign rfl rfl ?_
  refine RW.nil (EX.seq (CW.seq (CW.region ?_)))
  refine RW.assign rfl rfl ?_
  refine RW.nil (EX.seq (CW.seq (CW.seq (CW.region ?_))))
  refine RW.assign rfl rfl ?_
  refine RW.nil (EX.seq (CW.block ?_))
  -- mq: loop
  refine CW.loop (ι := Nat × Value × List CellV) (fun i => [(0, .slice A n c), (3, i.2.1), (4, .int .i64 (i.1 : Int))]) (fun i => SH w [] [own 34 8 i.2.1 i.2.2.length (ECell.all i.2.2)]) (fun i => i.1 ≤ n ∧ i.2.2 = cellsOf (rows.take i.1) ∧ ∀ g, i.2.1.ownBlock = some g → w.heap.size ≤ g) (fun i => n - i.1) ?_ ?_
  · exact fun w hw => ⟨(0, .slice none 0 0, []), ⟨Nat.zero_le _, rfl, by simp [Value.ownBlock]⟩, (by repeat (first | exact Sub.nil | refine Sub.cons (by rfl) ?_)), hw⟩
  · rintro ⟨k, v, L⟩ ⟨hk, hL, hv⟩
    dsimp only at hk hL hv ⊢
    refine CW.seq (CW.seq (CW.region ?_))
    refine RW.move rfl rfl ?_
    refine RW.move rfl rfl ?_
    refine RW.lenSl Try.underlying24 rfl rfl ?_
    refine RW.lss rfl rfl rfl ?_
    refine RW.nil (EX.seq ?_)
    -- mq: cond
    first | refine CW.condD rfl (fun hlt => ?_) (fun hlt => ?_) | refine CW.cond rfl (fun hlt => ?_) (fun hlt => ?_)
    · skip
      obtain ⟨row, hrow⟩ : ∃ row, rows[k]? = some row := ⟨rows[k]'(by omega), List.getElem?_eq_getElem _⟩
      obtain ⟨ad, B, m, d, hA, _, hcell, hrd⟩ := hr.at_ hrow
      have hm := hrd.len
      have hsl : L.length + m ≤ 1000000 := by
        have h1 := sumLen_take_le rows (k + 1)
        rw [take_snoc' hrow] at h1
        have h2 : sumLen (rows.take k ++ [row]) = sumLen (rows.take k) + m := by simp [sumLen, hm]
        have h3 := cellsOf_le (rows.take k)
        rw [hL]
        omega
      refine CW.skip (EX.seq (CW.seq (CW.block (CW.seq (CW.region ?_)))))
      refine RW.assign rfl rfl ?_
      refine RW.nil (EX.seq (CW.block ?_))
      -- mq: loop
      refine CW.loop (ι := Nat × Value × List CellV) (fun i => [(0, .slice A n c), (3, i.2.1), (4, .int .i64 (k : Int)), (5, .int .i64 (i.1 : Int))]) (fun i => SH w [] [own 34 8 i.2.1 i.2.2.length (ECell.all i.2.2)]) (fun i => i.1 ≤ m ∧ i.2.2 = L ++ (row.1.take i.1).filter (fun c => decide (c.half ≠ 3)) ∧ ∀ g, i.2.1.ownBlock = some g → w.heap.size ≤ g) (fun i => m - i.1) ?_ ?_
      · exact fun w hw => ⟨(0, v, L), ⟨Nat.zero_le _, by simp, hv⟩, (by repeat (first | exact Sub.nil | refine Sub.cons (by rfl) ?_)), hw⟩
      · rintro ⟨j, v', L'⟩ ⟨hj, hL', hv'⟩
        dsimp only at hj hL' hv' ⊢
        have hLl : L'.length ≤ L.length + j := by
          rw [hL', List.length_append]
          have := List.length_filter_le (fun c : CellV => decide (c.half ≠ 3)) (row.1.take j)
          rw [List.length_take] at this
          omega
        refine CW.seq (CW.seq (CW.region ?_))
        refine RW.move rfl rfl ?_
        refine RW.move rfl rfl ?_
        refine RW.move rfl rfl ?_
        refine RW.ixAddr (q := k) sl24 rfl rfl rfl (by first | rfl | assumption) (by omega) (by omega) ?_
        refine RW.fieldP fl45x0 rfl rfl ?_
        refine RW.load1 sc22 rfl rfl (fun w' hw' => hw'.base_cell (hcell 0 _ rfl) (by simp)) ?_
        refine RW.lenSl Try.underlying22 rfl rfl ?_
        refine RW.lss rfl rfl rfl ?_
        refine RW.nil (EX.seq ?_)
        -- mq: cond
        first | refine CW.condD rfl (fun hjt => ?_) (fun hjt => ?_) | refine CW.cond rfl (fun hjt => ?_) (fun hjt => ?_)
        · skip
          obtain ⟨x, hx⟩ : ∃ x, row.1[j]? = some x := ⟨row.1[j]'(by omega), List.getElem?_eq_getElem _⟩
          obtain ⟨bd, hB, _, hxc⟩ := hrd.at_ hx
          refine CW.skip (EX.seq (CW.seq (CW.block (CW.seq (CW.region ?_)))))
          refine RW.move rfl rfl ?_
          refine RW.move rfl rfl ?_
          refine RW.ixAddr (q := k) sl24 rfl rfl rfl (by first | rfl | assumption) (by omega) (by omega) ?_
          refine RW.fieldP fl45x0 rfl rfl ?_
          refine RW.load1 sc22 rfl rfl (fun w' hw' => hw'.base_cell (hcell 0 _ rfl) (by simp)) ?_
          refine RW.move rfl rfl ?_
          refine RW.ixAddr (q := j) sl22 rfl rfl rfl (by first | rfl | assumption) (by omega) (by omega) ?_
          refine RW.fieldP fl34x2 rfl rfl ?_
          refine RW.load1 sc3 rfl rfl (fun w' hw' => hw'.base_cell (hxc 2 _ rfl) (by simp)) ?_
          refine RW.neqI rfl rfl rfl ?_
          refine RW.nil (EX.seq ?_)
          -- mq: cond
          first | refine CW.condD rfl (fun h3 => ?_) (fun h3 => ?_) | refine CW.cond rfl (fun h3 => ?_) (fun h3 => ?_)
          · skip
            refine CW.region ?_
            refine RW.move rfl rfl ?_
            refine RW.move rfl rfl ?_
            refine RW.move rfl rfl ?_
            refine RW.ixAddr (q := k) sl24 rfl rfl rfl (by first | rfl | assumption) (by omega) (by omega) ?_
            refine RW.fieldP fl45x0 rfl rfl ?_
            refine RW.load1 sc22 rfl rfl (fun w' hw' => hw'.base_cell (hcell 0 _ rfl) (by simp)) ?_
            refine RW.move rfl rfl ?_
            refine RW.ixAddr (q := j) sl22 rfl rfl rfl (by first | rfl | assumption) (by omega) (by omega) ?_
            refine RW.loadA ag34 rfl rfl (rfl) (fun w' hw' j u hj => hw'.base_cell (hxc j u hj) (by simp)) ?_
            refine RW.buildSlc sl22 rfl rfl rfl rfl (fun g41 hg41 hf41 => ?_)
            refine RW.append1 sl22 rfl rfl rfl (by first | exact Rem.head | exact Rem.tail Rem.head | exact Rem.tail (Rem.tail Rem.head) | exact Rem.tail (Rem.tail (Rem.tail Rem.head)) | exact Rem.tail (Rem.tail (Rem.tail (Rem.tail Rem.head))) | exact Rem.tail (Rem.tail (Rem.tail (Rem.tail (Rem.tail Rem.head)))) | exact Rem.tail (Rem.tail (Rem.tail (Rem.tail (Rem.tail (Rem.tail Rem.head)))))) (fun _ => by first | exact Upd.head | exact Upd.tail Upd.head | exact Upd.tail (Upd.tail Upd.head) | exact Upd.tail (Upd.tail (Upd.tail Upd.head)) | exact Upd.tail (Upd.tail (Upd.tail (Upd.tail Upd.head))) | exact Upd.tail (Upd.tail (Upd.tail (Upd.tail (Upd.tail Upd.head)))) | exact Upd.tail (Upd.tail (Upd.tail (Upd.tail (Upd.tail (Upd.tail Upd.head)))))) rfl (by repeat (first | exact Ones.nil | exact Enc.ones _ _ | refine Ones.cons rfl ?_)) (by simp only [maxLen]; omega) (by omega) (fun v42 hv42 => ?_)
            refine RW.assign rfl rfl ?_
            refine RW.nil (EX.bkN (EX.seq (CW.region ?_)))
            refine RW.move rfl rfl ?_
            refine RW.add rfl rfl rfl (wrap64 (by omega) (by omega)) ?_
            refine RW.assign rfl rfl ?_
            refine RW.nil ?_
            -- mq: loopend
            refine EX.lpN (j + 1, v42, L' ++ [x]) ⟨by omega, by rw [take_snoc' hx, filter_snoc, if_pos (decide_eq_true h3), hL', List.append_assoc], fun g hg => by
              rcases hv42 g hg with h | h
              · exact hv' g h
              · exact h.1⟩ (by omega) (by repeat (first | exact Sub.nil | refine Sub.cons (by rfl) ?_)) (fun w' hw' => ?_)
            rw [List.length_append, Enc.all_snoc]
            exact hw'
          · skip
            refine CW.skip (EX.bkN (EX.seq (CW.region ?_)))
            refine RW.move rfl rfl ?_
            refine RW.add rfl rfl rfl (wrap64 (by omega) (by omega)) ?_
            refine RW.assign rfl rfl ?_
            refine RW.nil ?_
            -- mq: loopend
            refine EX.lpN (j + 1, v', L') ⟨by omega, by rw [take_snoc' hx, filter_snoc, if_neg (fun h => h3 (of_decide_eq_true h)), hL'], hv'⟩ (by omega) (by repeat (first | exact Sub.nil | refine Sub.cons (by rfl) ?_)) (fun w' hw' => hw')
        · skip
          refine CW.exit (EX.seqE (EX.lpE (EX.bkE (EX.bkN (EX.seq (CW.region ?_))))))
          refine RW.move rfl rfl ?_
          refine RW.add rfl rfl rfl (wrap64 (by omega) (by omega)) ?_
          refine RW.assign rfl rfl ?_
          refine RW.nil ?_
          -- mq: loopend
          have hjm : j = m := by omega
          subst hjm
          refine EX.lpN (k + 1, v', L') ⟨by omega, by rw [take_snoc' hrow, cellsOf_snoc, hL', hL, List.take_of_length_le (l := row.1) (by omega)], hv'⟩ (by omega) (by repeat (first | exact Sub.nil | refine Sub.cons (by rfl) ?_)) (fun w' hw' => hw')
    · skip
      have hkn : k = n := by omega
      subst hkn
      rw [List.take_of_length_le (by omega)] at hL
      have hLl : L.length ≤ 1000000 := by rw [hL]; exact Nat.le_trans (cellsOf_le rows) hs
      refine CW.exit (EX.seqE (EX.lpE (EX.bkE (EX.seq (CW.seq (CW.region ?_))))))
      refine RW.move rfl rfl ?_
      -- mq: at
      refine RW.rebase (fun w1 hw1 => ?_)
      obtain ⟨A1, c1, rfl, hrd1⟩ := Rd.of_own (E := ECell) (hw1.has Has.head) rfl
      refine RW.callR rfl ca15 rfl (fun w' hw' => refMend_c w' _ A1 L.length c1 L (hrd1.ext hw'.ext (by simp)) hLl) ?_
      intro w2 w3 A2 m2 c2 hw2 he3 hw3 hrd2
      have hm2 := hrd2.len
      rw [mendL_length] at hm2
      refine RW.assign rfl rfl ?_
      refine RW.nil (EX.seq (CW.seq (CW.region ?_)))
      refine RW.move rfl rfl ?_
      refine RW.move rfl rfl ?_
      -- mq: op 2: ('Op.call', ('Call.mk', ('Callee.value', ('Operand.func', '18')), ('arr', ('Operand.tmp', '46')), ('arr', '22'))) -> slot 47 ("ref.go:28")
      refine RW.call rfl ca18 rfl (fun w' hw' => refUsed_c w' _ A2 m2 c2 _ (hrd2.ext hw'.ext (by simp)) (by omega)) ?_
      have hul := usedL_le (mendL L)
      rw [mendL_length] at hul
      have hcap := hrd2.cap
      refine RW.sliceSl 0 (usedL (mendL L)) sl22 rfl rfl (.inr ⟨rfl, rfl⟩) (.inl ⟨_, _, rfl, rfl, rfl⟩) (by omega) (by omega) ?_
      refine RW.assign rfl rfl ?_
      refine RW.nil (EX.seq (CW.ret ?_))
      refine EX.fin1 Try.results22 rfl (fun wz hw => ?_)
      -- mq: done
      have hcut := hrd2.cut (p := 0) (q := usedL (mendL L)) (by omega) (by omega)
      refine ⟨_, _, _, rfl, (hw1.ext.trans0 hw2.ext).trans0 (he3.trans0 hw.ext), ?_⟩
      have h5 := (hcut.ext0 hw.ext).weak (F' := fun k => w.heap.size ≤ k) (fun k hk => Nat.le_trans (Nat.le_trans hw1.ext.size hw2.ext.size) hk)
      rw [List.drop_zero] at h5
      subst hL
      exact h5

theorem RdRows.cap' {w : World} {F : Nat → Prop} {A : Option Addr} {n c : Nat} {rows : List RowL} (h : RdRows w F A n c rows) : n ≤ c ∧ c ≤ maxLen := by
  obtain ⟨rs, h1, _⟩ := h.prf
  exact ⟨h1.cap, h1.max⟩

/-- the first row of the line that a row is in -/
def lineL (rows : List RowL) : Nat → Nat
  | 0 => 0
  | i + 1 => if (rows[i + 1]?.map (·.2)) = some true then lineL rows i else i + 1
theorem lineL_le (rows : List RowL) (i : Nat) : lineL rows i ≤ i := by
  induction i with
  | zero => exact Nat.le_refl _
  | succ i ih => rw [lineL]; split <;> omega
theorem Line_c (w : World) (F : Nat → Prop) (A : Option Addr) (n c : Nat) (rows : List RowL) (hr : RdRows w F A n c rows) (hn : n ≤ 1000000) (i : Nat) (hi : i < n) :
    Calls Try.prog 21 [.slice A n c, .int .i64 (i : Int)].toArray w (fun e w' => e = .returned (.int .i64 (lineL rows i : Int)) ∧ Ext [] w w') := by
  have hl := hr.len
  refine calls (n := 17) Try.func21 rfl Try.ntmps21 rfl ?_
  refine CW.sub (H' := SH w [] []) ?_ (Sub.refl _) (fun x hx => SH.start' _ _ hx)
  refine CW.seq (CW.region ?_)
  refine RW.assign rfl rfl ?_
  refine RW.nil (EX.seq (CW.seq (CW.block ?_)))
  -- mq: loop
  refine CW.loop (ι := Nat) (fun k => [(0, .slice A n c), (1, .int .i64 (k : Int))]) (fun _ => SH w [] []) (fun k => k ≤ i ∧ lineL rows k = lineL rows i) (fun k => k) ?_ ?_
  · exact fun w hw => ⟨i, ⟨Nat.le_refl _, rfl⟩, (by repeat (first | exact Sub.nil | refine Sub.cons (by rfl) ?_)), hw⟩
  · rintro k ⟨hk, hkl⟩
    refine CW.seq (CW.seq (CW.region ?_))
    refine RW.move rfl rfl ?_
    refine RW.gtr rfl rfl rfl ?_
    refine RW.move rfl rfl ?_
    -- mq: guard slot 7
    obtain ⟨row, hrow⟩ : ∃ row, rows[k]? = some row := ⟨rows[k]'(by omega), List.getElem?_eq_getElem _⟩
    obtain ⟨ad, B, m, d, hA, _, hcell, hrd⟩ := hr.at_ hrow
    refine RW.casesB 7 rfl (fun h0 => ?_) (fun h0 => ?_)
    · skip
      have h0p := of_decide_eq_true h0
      refine RW.guardT rfl rfl h0 ?_
      refine RW.move rfl rfl ?_
      refine RW.guardT rfl rfl h0 ?_
      refine RW.move rfl rfl ?_
      refine RW.guardT rfl rfl h0 ?_
      refine RW.ixAddr (q := k) sl24 rfl rfl rfl (by first | rfl | assumption) (by omega) (by omega) ?_
      refine RW.guardT rfl rfl h0 ?_
      refine RW.fieldP fl45x1 rfl rfl ?_
      refine RW.guardT rfl rfl h0 ?_
      refine RW.load1 sc4 rfl rfl (fun w' hw' => hw'.base_cell (hcell 1 _ rfl) (by simp)) ?_
      refine RW.pickB rfl rfl h0 rfl ?_
      refine RW.nil (EX.seq ?_)
      -- mq: cond
      first | refine CW.condD rfl (fun hc => ?_) (fun hc => ?_) | refine CW.cond rfl (fun hc => ?_) (fun hc => ?_)
      · skip
        refine CW.skip (EX.seq (CW.block (CW.region ?_)))
        refine RW.move rfl rfl ?_
        refine RW.sub_ rfl rfl rfl (wrap64 (by omega) (by omega)) ?_
        refine RW.assign rfl rfl ?_
        refine RW.nil (EX.bkN ?_)
        -- mq: loopend
        cases k with
        | zero => simp at h0p
        | succ k =>
        refine EX.lpN k ⟨by omega, by rw [← hkl]; conv => rhs; rw [lineL, hrow]
                                      simp [hc]⟩ (by omega) (Sub.cons (by rfl) (Sub.cons (by simp [look]) Sub.nil)) (fun w' hw' => hw')
      · skip
        refine CW.exit (EX.seqE (EX.lpE (EX.bkE (EX.seq (CW.seq (CW.region ?_))))))
        refine RW.move rfl rfl ?_
        refine RW.assign rfl rfl ?_
        refine RW.nil (EX.seq (CW.ret ?_))
        refine EX.fin1 Try.results21 rfl (fun wz hw => ?_)
        -- mq: done
        refine ⟨?_, hw.ext⟩
        cases k with
        | zero => simp at h0p
        | succ k =>
        rw [← hkl, lineL, hrow, if_neg (by simpa using hc)]
    · skip
      have h0p := of_decide_eq_false h0
      refine RW.guardF rfl rfl rfl h0 ?_
      refine RW.guardF rfl rfl rfl h0 ?_
      refine RW.guardF rfl rfl rfl h0 ?_
      refine RW.guardF rfl rfl rfl h0 ?_
      refine RW.guardF rfl rfl rfl h0 ?_
      refine RW.pickC rfl rfl h0 rfl ?_
      refine RW.nil (EX.seq ?_)
      -- mq: cond
      refine CW.condF rfl (rfl) ?_
      refine CW.exit (EX.seqE (EX.lpE (EX.bkE (EX.seq (CW.seq (CW.region ?_))))))
      refine RW.move rfl rfl ?_
      refine RW.assign rfl rfl ?_
      refine RW.nil (EX.seq (CW.ret ?_))
      refine EX.fin1 Try.results21 rfl (fun wz hw => ?_)
      -- mq: done
      have hk0 : k = 0 := by omega
      subst hk0
      exact ⟨by rw [← hkl]; rfl, hw.ext⟩

theorem Great_c (w : World) (F : Nat → Prop) (A : Option Addr) (n c : Nat) (rows : List RowL) (hr : RdRows w F A n c rows) (hn : n ≤ 140737488351232) (hsm : ∀ row ∈ rows, row.1.length ≤ 140737488351232) :
    Calls Try.prog 19 [.slice A n c].toArray w (fun e w' => e = .returned (.bool (decide (600 < n + sumLen rows))) ∧ Ext [] w w') := by
  have hl := hr.len
  refine calls (n := 27) Try.func19 rfl Try.ntmps19 rfl ?_
  refine CW.sub (H' := SH w [] []) ?_ (Sub.refl _) (fun x hx => SH.start' _ _ hx)
  refine CW.seq (CW.region ?_)
  refine RW.assign rfl rfl ?_
  refine RW.nil (EX.seq (CW.seq (CW.region ?_)))
  refine RW.move rfl rfl ?_
  refine RW.lenSl Try.underlying24 rfl rfl ?_
  refine RW.assign rfl rfl ?_
  refine RW.nil (EX.seq (CW.seq (CW.seq (CW.region ?_))))
  refine RW.assign rfl rfl ?_
  refine RW.nil (EX.seq (CW.block ?_))
  -- mq: loop
  refine CW.loop (ι := Nat) (fun k => [(0, .slice A n c), (3, .int .i64 ((n + sumLen (rows.take k) : Nat) : Int)), (4, .int .i64 (k : Int))]) (fun _ => SH w [] []) (fun k => k ≤ n ∧ n + sumLen (rows.take k) ≤ 200000000000000) (fun k => n - k) ?_ ?_
  · exact fun w hw => ⟨0, ⟨Nat.zero_le _, by simp [sumLen]; omega⟩, Sub.cons (by rfl) (Sub.cons (by rfl) (Sub.cons (by rfl) Sub.nil)), hw⟩
  · rintro k ⟨hk, hb⟩
    have hs0 := sumLen_take_le rows k
    refine CW.seq (CW.seq (CW.region ?_))
    refine RW.move rfl rfl ?_
    refine RW.move rfl rfl ?_
    refine RW.lenSl Try.underlying24 rfl rfl ?_
    refine RW.lss rfl rfl rfl ?_
    refine RW.move rfl rfl ?_
    -- mq: guard slot 11
    refine RW.casesB 11 rfl (fun h0 => ?_) (fun h0 => ?_)
    · skip
      have h0p := of_decide_eq_true h0
      refine RW.guardT rfl rfl h0 ?_
      refine RW.move rfl rfl ?_
      refine RW.guardT rfl rfl h0 ?_
      refine RW.leq rfl rfl rfl ?_
      refine RW.pickB rfl rfl h0 rfl ?_
      refine RW.nil (EX.seq ?_)
      -- mq: cond
      obtain ⟨row, hrow⟩ : ∃ row, rows[k]? = some row := ⟨rows[k]'(by omega), List.getElem?_eq_getElem _⟩
      obtain ⟨ad, B, m, d, hA, _, hcell, hrd⟩ := hr.at_ hrow
      have hm := hrd.len
      have h2 : sumLen (rows.take (k + 1)) = sumLen (rows.take k) + m := by rw [take_snoc' hrow]; simp [sumLen, hm]
      have h3 := hsm row (List.mem_of_getElem? hrow)
      first | refine CW.condD rfl (fun hc => ?_) (fun hc => ?_) | refine CW.cond rfl (fun hc => ?_) (fun hc => ?_)
      · skip
        refine CW.skip (EX.seq (CW.seq (CW.block (CW.region ?_))))
        refine RW.move rfl rfl ?_
        refine RW.move rfl rfl ?_
        refine RW.move rfl rfl ?_
        refine RW.ixAddr (q := k) sl24 rfl rfl rfl (by first | rfl | assumption) (by omega) (by omega) ?_
        refine RW.fieldP fl45x0 rfl rfl ?_
        refine RW.load1 sc22 rfl rfl (fun w' hw' => hw'.base_cell (hcell 0 _ rfl) (by simp)) ?_
        refine RW.lenSl Try.underlying22 rfl rfl ?_
        refine RW.add rfl rfl rfl (wrap64 (by omega) (by omega)) ?_
        refine RW.assign rfl rfl ?_
        refine RW.nil (EX.bkN (EX.seq (CW.region ?_)))
        refine RW.move rfl rfl ?_
        refine RW.add rfl rfl rfl (wrap64 (by omega) (by omega)) ?_
        refine RW.assign rfl rfl ?_
        refine RW.nil ?_
        -- mq: loopend
        refine EX.lpN (k + 1) ⟨by omega, by omega⟩ (by omega) (Sub.cons (by rfl) (Sub.cons (by rw [h2]; simp [look]; omega) (Sub.cons (by rfl) Sub.nil))) (fun w' hw' => hw')
      · skip
        refine CW.exit (EX.seqE (EX.lpE (EX.bkE (EX.seq (CW.seq (CW.region ?_))))))
        refine RW.move rfl rfl ?_
        refine RW.gtr rfl rfl rfl ?_
        refine RW.assign rfl rfl ?_
        refine RW.nil (EX.seq (CW.ret ?_))
        refine EX.fin1 Try.results19 rfl (fun wz hw => ?_)
        -- mq: done
        refine ⟨?_, hw.ext⟩
        have := sumLen_take_le rows k
        rw [decide_eq_decide.2]
        constructor <;> intro <;> omega
    · skip
      have h0p := of_decide_eq_false h0
      refine RW.guardF rfl rfl rfl h0 ?_
      refine RW.guardF rfl rfl rfl h0 ?_
      refine RW.pickC rfl rfl h0 rfl ?_
      refine RW.nil (EX.seq ?_)
      -- mq: cond
      refine CW.condF rfl (rfl) ?_
      refine CW.exit (EX.seqE (EX.lpE (EX.bkE (EX.seq (CW.seq (CW.region ?_))))))
      refine RW.move rfl rfl ?_
      refine RW.gtr rfl rfl rfl ?_
      refine RW.assign rfl rfl ?_
      refine RW.nil (EX.seq (CW.ret ?_))
      refine EX.fin1 Try.results19 rfl (fun wz hw => ?_)
      -- mq: done
      refine ⟨?_, hw.ext⟩
      have hkn : k = n := by omega
      rw [hkn, List.take_of_length_le (by omega)]
      rw [decide_eq_decide.2]
      constructor <;> intro <;> omega
end Go.Proofs.Ytmdmdlfdijdhgaa.Mq
