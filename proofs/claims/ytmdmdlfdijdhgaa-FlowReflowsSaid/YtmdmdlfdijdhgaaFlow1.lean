/- walks of flow: Flow, plain, take -/
import Derived.Test.YtmdmdlfdijdhgaaCells3
namespace Go.Proofs.Ytmdmdlfdijdhgaa.Mq
open Go Go.RowKit Go.Proofs

abbrev RowL := List CellV × Bool
/-- rows that read as lists of cells, and whether they go on -/
structure RdRows (w : World) (F : Nat → Prop) (A : Option Addr) (n c : Nat) (rows : List RowL) : Prop where
  prf : ∃ rs : List RowV, Rd ERow w F A n c rs ∧ rs.map (·.cont) = rows.map (·.2) ∧ ∀ (k : Nat) (r : RowV) (row : RowL), rs[k]? = some r → rows[k]? = some row → Rd ECell w F r.A r.n r.c row.1
theorem RdRows.len {w : World} {F : Nat → Prop} {A : Option Addr} {n c : Nat} {rows : List RowL} (h : RdRows w F A n c rows) : rows.length = n := by
  obtain ⟨rs, h1, h2, _⟩ := h.prf
  have := congrArg List.length h2
  simp only [List.length_map] at this
  rw [← this, h1.len]
theorem RdRows.ext {w w' : World} {F : Nat → Prop} {S : List Nat} {A : Option Addr} {n c : Nat} {rows : List RowL} (h : RdRows w F A n c rows) (he : Ext S w w') (hs : ∀ k, F k → k ∉ S) : RdRows w' F A n c rows := by
  obtain ⟨rs, h1, h2, h3⟩ := h.prf
  exact ⟨rs, h1.ext he hs, h2, fun k r row hk hr => (h3 k r row hk hr).ext he hs⟩
theorem RdRows.weak {w : World} {F F' : Nat → Prop} {A : Option Addr} {n c : Nat} {rows : List RowL} (h : RdRows w F A n c rows) (hF : ∀ k, F k → F' k) : RdRows w F' A n c rows := by
  obtain ⟨rs, h1, h2, h3⟩ := h.prf
  exact ⟨rs, h1.weak hF, h2, fun k r row hk hr => (h3 k r row hk hr).weak hF⟩
theorem RdRows.at_ {w : World} {F : Nat → Prop} {A : Option Addr} {n c : Nat} {rows : List RowL} (h : RdRows w F A n c rows) {k : Nat} {row : RowL} (hk : rows[k]? = some row) :
    ∃ ad B m d, A = some ad ∧ F ad.block ∧ (∀ j u, ([.slice B m d, .bool row.2] : List Value)[j]? = some u → w.cell? ((ad.add (k * 2)).add j) = some u) ∧ Rd ECell w F B m d row.1 := by
  obtain ⟨rs, h1, h2, h3⟩ := h.prf
  have hlt := (List.getElem?_eq_some_iff.1 hk).1
  have hl : rs.length = rows.length := by simpa using congrArg List.length h2
  obtain ⟨r, hr⟩ : ∃ r, rs[k]? = some r := ⟨rs[k]'(by omega), List.getElem?_eq_getElem _⟩
  have hc : r.cont = row.2 := by
    have := congrArg (fun l => l[k]?) h2
    simp only [List.getElem?_map, hr, hk, Option.map_some, Option.some.injEq] at this
    exact this
  obtain ⟨ad, hA, hF, hcell⟩ := h1.at_ hr
  exact ⟨ad, r.A, r.n, r.c, hA, hF, fun j u hj => hcell j u (by rw [← hc] at hj; exact hj), h3 k r row hr hk⟩
def cellsOf (rows : List RowL) : List CellV := (rows.flatMap (·.1)).filter (fun c => decide (c.half ≠ 3))
def flowF (rows : List RowL) : List CellV := trimL (mendL (cellsOf rows))
theorem cellsOf_snoc (rows : List RowL) (r : RowL) : cellsOf (rows ++ [r]) = cellsOf rows ++ r.1.filter (fun c => decide (c.half ≠ 3)) := by simp [cellsOf]
theorem take_snoc' {α : Type} {l : List α} {k : Nat} {a : α} (h : l[k]? = some a) : l.take (k + 1) = l.take k ++ [a] := by rw [List.take_add_one, h]; rfl
theorem filter_snoc {α : Type} (p : α → Bool) (l : List α) (a : α) : (l ++ [a]).filter p = if p a = true then l.filter p ++ [a] else l.filter p := by
  by_cases h : p a = true <;> simp [h]
def sumLen (rows : List RowL) : Nat := (rows.map (·.1.length)).sum
theorem cellsOf_le (rows : List RowL) : (cellsOf rows).length ≤ sumLen rows := by
  unfold cellsOf sumLen
  refine Nat.le_trans (List.length_filter_le _ _) ?_
  rw [List.length_flatMap]
  exact Nat.le_refl _
theorem sumLen_take_le (rows : List RowL) (k : Nat) : sumLen (rows.take k) ≤ sumLen rows := by
  have h := List.take_append_drop k rows
  have : sumLen rows = sumLen (rows.take k) + sumLen (rows.drop k) := by
    conv => lhs; rw [← h]
    simp only [sumLen, List.map_append, List.sum_append]
  omega

theorem Flow_c (w : World) (F : Nat → Prop) (A : Option Addr) (n c : Nat) (rows : List RowL) (hr : RdRows w F A n c rows) (hn : n ≤ 1000000) (hs : sumLen rows ≤ 1000000) :
    Calls Try.prog 17 [.slice A n c].toArray w (RetSl ECell w (flowF rows)) := by
  have hl := hr.len
  refine calls (n := 36) Try.func17 rfl Try.ntmps17 rfl ?_
  refine CW.sub (H' := SH w [] []) ?_ (Sub.refl _) (fun x hx => SH.start' _ _ hx)
  refine CW.ownNil 34 8 ?_
  refine CW.seq (CW.region ?_)
  refine RW.assign rfl rfl ?_
  refine RW.nil (EX.seq (CW.seq (CW.region ?_)))
  refine RW.assign rfl rfl ?_
  refine RW.nil (EX.seq (CW.seq (CW.seq (CW.region ?_))))
  refine RW.move rfl rfl ?_
  refine RW.lenSl Try.underlying24 rfl rfl ?_
  refine RW.move rfl rfl ?_
  refine RW.nil (EX.seq (CW.block ?_))
  -- mq: loop
  refine CW.loop (ι := Nat × Value × List CellV) (fun i => [(3, i.2.1), (8, .slice A n c), (9, .int .i64 (n : Int)), (10, .int .i64 (i.1 : Int))]) (fun i => SH w [] [own 34 8 i.2.1 i.2.2.length (ECell.all i.2.2)]) (fun i => i.1 ≤ n ∧ i.2.2 = cellsOf (rows.take i.1) ∧ ∀ g, i.2.1.ownBlock = some g → w.heap.size ≤ g) (fun i => n - i.1) ?_ ?_
  · exact fun w hw => ⟨(0, .slice none 0 0, []), ⟨Nat.zero_le _, rfl, by simp [Value.ownBlock]⟩, (by repeat (first | exact Sub.nil | refine Sub.cons (by rfl) ?_)), hw⟩
  · rintro ⟨k, v, L⟩ ⟨hk, hL, hv⟩
    dsimp only at hk hL hv ⊢
    refine CW.seq (CW.region ?_)
    refine RW.lss rfl rfl rfl ?_
    refine RW.nil (EX.seq (CW.seq ?_))
    -- mq: cond
    first | refine CW.condD rfl (fun hlt => ?_) (fun hlt => ?_) | refine CW.cond rfl (fun hlt => ?_) (fun hlt => ?_)
    · skip
      obtain ⟨row, hrow⟩ : ∃ row, rows[k]? = some row := ⟨rows[k]'(by omega), List.getElem?_eq_getElem _⟩
      obtain ⟨ad, B, m, d, hA, _, hcell, hrd⟩ := hr.at_ hrow
      have hm := hrd.len
      have hsl : L.length + m ≤ 1000000 := by
        have h1 := sumLen_take_le rows (k + 1)
        rw [take_snoc' hrow] at h1
        have h2 : sumLen (rows.take k ++ [row]) = sumLen (rows.take k) + m := by simp [sumLen, hm]
        have h3 := cellsOf_le (rows.take k)
        rw [hL]
        omega
      refine CW.skip (EX.seq (CW.seq (CW.block (CW.seq (CW.region ?_)))))
      refine RW.ixAddr sl24 rfl rfl rfl (by first | rfl | assumption) (by rfl) (by omega) ?_
      refine RW.loadA ag45 rfl rfl (rfl) (fun w' hw' j u hj => hw'.base_cell (hcell j u hj) (by simp)) ?_
      refine RW.allocA ag45 rfl (fun g5 hg5 hf5 => ?_)
      refine RW.storeA ag45 rfl rfl (by first | exact Upd.head | exact Upd.tail Upd.head | exact Upd.tail (Upd.tail Upd.head) | exact Upd.tail (Upd.tail (Upd.tail Upd.head)) | exact Upd.tail (Upd.tail (Upd.tail (Upd.tail Upd.head))) | exact Upd.tail (Upd.tail (Upd.tail (Upd.tail (Upd.tail Upd.head)))) | exact Upd.tail (Upd.tail (Upd.tail (Upd.tail (Upd.tail (Upd.tail Upd.head)))))) (by first | rfl | exact Enc.len _ _) (by repeat (first | exact Ones.nil | exact Enc.ones _ _ | refine Ones.cons rfl ?_)) (by first | exact Nat.le_of_ble_eq_true rfl | (simp only [Enc.len]; decide)) ?_
      refine RW.nil (EX.seq (CW.seq (CW.region ?_)))
      refine RW.fieldB fl45x0 rfl rfl ?_
      refine RW.loadB1 sc22 rfl rfl (by first | exact Has.head | exact Has.tail Has.head | exact Has.tail (Has.tail Has.head) | exact Has.tail (Has.tail (Has.tail Has.head)) | exact Has.tail (Has.tail (Has.tail (Has.tail Has.head))) | exact Has.tail (Has.tail (Has.tail (Has.tail (Has.tail Has.head)))) | exact Has.tail (Has.tail (Has.tail (Has.tail (Has.tail (Has.tail Has.head)))))) rfl ?_
      refine RW.lenSl Try.underlying22 rfl rfl ?_
      refine RW.move rfl rfl ?_
      refine RW.nil (EX.seq (CW.block ?_))
      -- mq: loop
      refine CW.loop (ι := Nat × Value × List CellV) (fun i => [(3, i.2.1), (8, .slice A n c), (9, .int .i64 (n : Int)), (10, .int .i64 (k : Int)), (15, .slice B m d), (16, .int .i64 (m : Int)), (17, .int .i64 (i.1 : Int))]) (fun i => SH w [] [own 34 8 i.2.1 i.2.2.length (ECell.all i.2.2)]) (fun i => i.1 ≤ m ∧ i.2.2 = L ++ (row.1.take i.1).filter (fun c => decide (c.half ≠ 3)) ∧ ∀ g, i.2.1.ownBlock = some g → w.heap.size ≤ g) (fun i => m - i.1) ?_ ?_
      · exact fun w hw => ⟨(0, v, L), ⟨Nat.zero_le _, by simp, hv⟩, (by repeat (first | exact Sub.nil | refine Sub.cons (by rfl) ?_)), hw.rem Rem.head⟩
      · rintro ⟨j, v', L'⟩ ⟨hj, hL', hv'⟩
        dsimp only at hj hL' hv' ⊢
        have hLl : L'.length ≤ L.length + j := by
          rw [hL', List.length_append]
          have := List.length_filter_le (fun c : CellV => decide (c.half ≠ 3)) (row.1.take j)
          rw [List.length_take] at this
          omega
        refine CW.seq (CW.region ?_)
        refine RW.lss rfl rfl rfl ?_
        refine RW.nil (EX.seq (CW.seq ?_))
        -- mq: cond
        first | refine CW.condD rfl (fun hjt => ?_) (fun hjt => ?_) | refine CW.cond rfl (fun hjt => ?_) (fun hjt => ?_)
        · skip
          obtain ⟨x, hx⟩ : ∃ x, row.1[j]? = some x := ⟨row.1[j]'(by omega), List.getElem?_eq_getElem _⟩
          obtain ⟨bd, hB, _, hxc⟩ := hrd.at_ hx
          refine CW.skip (EX.seq (CW.seq (CW.block (CW.seq (CW.region ?_)))))
          refine RW.ixAddr sl22 rfl rfl rfl (by first | rfl | assumption) (by rfl) (by omega) ?_
          refine RW.loadA ag34 rfl rfl (rfl) (fun w' hw' j u hj => hw'.base_cell (hxc j u hj) (by simp)) ?_
          refine RW.allocA ag34 rfl (fun g7 hg7 hf7 => ?_)
          refine RW.storeA ag34 rfl rfl (by first | exact Upd.head | exact Upd.tail Upd.head | exact Upd.tail (Upd.tail Upd.head) | exact Upd.tail (Upd.tail (Upd.tail Upd.head)) | exact Upd.tail (Upd.tail (Upd.tail (Upd.tail Upd.head))) | exact Upd.tail (Upd.tail (Upd.tail (Upd.tail (Upd.tail Upd.head)))) | exact Upd.tail (Upd.tail (Upd.tail (Upd.tail (Upd.tail (Upd.tail Upd.head)))))) (by first | rfl | exact Enc.len _ _) (by repeat (first | exact Ones.nil | exact Enc.ones _ _ | refine Ones.cons rfl ?_)) (by first | exact Nat.le_of_ble_eq_true rfl | (simp only [Enc.len]; decide)) ?_
          refine RW.nil (EX.seq (CW.seq (CW.region ?_)))
          refine RW.fieldB fl34x2 rfl rfl ?_
          refine RW.loadB1 sc3 rfl rfl (by first | exact Has.head | exact Has.tail Has.head | exact Has.tail (Has.tail Has.head) | exact Has.tail (Has.tail (Has.tail Has.head)) | exact Has.tail (Has.tail (Has.tail (Has.tail Has.head))) | exact Has.tail (Has.tail (Has.tail (Has.tail (Has.tail Has.head)))) | exact Has.tail (Has.tail (Has.tail (Has.tail (Has.tail (Has.tail Has.head)))))) rfl ?_
          refine RW.neqI rfl rfl rfl ?_
          refine RW.nil (EX.seq ?_)
          -- mq: cond
          first | refine CW.condD rfl (fun h3 => ?_) (fun h3 => ?_) | refine CW.cond rfl (fun h3 => ?_) (fun h3 => ?_)
          · skip
            refine CW.region ?_
            refine RW.move rfl rfl ?_
            refine RW.loadBA ag34 rfl rfl (by first | exact Has.head | exact Has.tail Has.head | exact Has.tail (Has.tail Has.head) | exact Has.tail (Has.tail (Has.tail Has.head)) | exact Has.tail (Has.tail (Has.tail (Has.tail Has.head))) | exact Has.tail (Has.tail (Has.tail (Has.tail (Has.tail Has.head)))) | exact Has.tail (Has.tail (Has.tail (Has.tail (Has.tail (Has.tail Has.head)))))) rfl rfl ?_
            refine RW.buildSlc sl22 rfl rfl rfl rfl (fun g26 hg26 hf26 => ?_)
            refine RW.append1 sl22 rfl rfl rfl (by first | exact Rem.head | exact Rem.tail Rem.head | exact Rem.tail (Rem.tail Rem.head) | exact Rem.tail (Rem.tail (Rem.tail Rem.head)) | exact Rem.tail (Rem.tail (Rem.tail (Rem.tail Rem.head))) | exact Rem.tail (Rem.tail (Rem.tail (Rem.tail (Rem.tail Rem.head)))) | exact Rem.tail (Rem.tail (Rem.tail (Rem.tail (Rem.tail (Rem.tail Rem.head)))))) (fun _ => by first | exact Upd.head | exact Upd.tail Upd.head | exact Upd.tail (Upd.tail Upd.head) | exact Upd.tail (Upd.tail (Upd.tail Upd.head)) | exact Upd.tail (Upd.tail (Upd.tail (Upd.tail Upd.head))) | exact Upd.tail (Upd.tail (Upd.tail (Upd.tail (Upd.tail Upd.head)))) | exact Upd.tail (Upd.tail (Upd.tail (Upd.tail (Upd.tail (Upd.tail Upd.head)))))) rfl (by repeat (first | exact Ones.nil | exact Enc.ones _ _ | refine Ones.cons rfl ?_)) (by simp only [maxLen]; omega) (by omega) (fun v27 hv27 => ?_)
            refine RW.assign rfl rfl ?_
            refine RW.nil (EX.bkN (EX.seq (CW.region ?_)))
            refine RW.add rfl rfl rfl (wrap64 (by omega) (by omega)) ?_
            refine RW.move rfl rfl ?_
            refine RW.nil ?_
            -- mq: loopend
            refine EX.lpN (j + 1, v27, L' ++ [x]) ⟨by omega, by rw [take_snoc' hx, filter_snoc, if_pos (decide_eq_true h3), hL', List.append_assoc], fun g hg => by
              rcases hv27 g hg with h | h
              · exact hv' g h
              · exact h.1⟩ (by omega) (by repeat (first | exact Sub.nil | refine Sub.cons (by rfl) ?_)) (fun w' hw' => ?_)
            rw [List.length_append, Enc.all_snoc]
            exact hw'.rem Rem.head
          · skip
            refine CW.skip (EX.bkN (EX.seq (CW.region ?_)))
            refine RW.add rfl rfl rfl (wrap64 (by omega) (by omega)) ?_
            refine RW.move rfl rfl ?_
            refine RW.nil ?_
            -- mq: loopend
            refine EX.lpN (j + 1, v', L') ⟨by omega, by rw [take_snoc' hx, filter_snoc, if_neg (fun h => h3 (of_decide_eq_true h)), hL'], hv'⟩ (by omega) (by repeat (first | exact Sub.nil | refine Sub.cons (by rfl) ?_)) (fun w' hw' => hw'.rem Rem.head)
        · skip
          refine CW.exit (EX.seqE (EX.lpE (EX.bkE (EX.bkN (EX.seq (CW.region ?_))))))
          refine RW.add rfl rfl rfl (wrap64 (by omega) (by omega)) ?_
          refine RW.move rfl rfl ?_
          refine RW.nil ?_
          -- mq: loopend
          have hjm : j = m := by omega
          subst hjm
          refine EX.lpN (k + 1, v', L') ⟨by omega, by rw [take_snoc' hrow, cellsOf_snoc, hL', hL, List.take_of_length_le (l := row.1) (by omega)], hv'⟩ (by omega) (by repeat (first | exact Sub.nil | refine Sub.cons (by rfl) ?_)) (fun w' hw' => hw')
    · skip
      have hkn : k = n := by omega
      subst hkn
      rw [List.take_of_length_le (by omega)] at hL
      have hLl : L.length ≤ 1000000 := by rw [hL]; exact Nat.le_trans (cellsOf_le rows) hs
      refine CW.exit (EX.seqE (EX.lpE (EX.bkE (EX.seq (CW.seq (CW.region ?_))))))
      refine RW.move rfl rfl ?_
      -- mq: at
      refine RW.rebase (fun w1 hw1 => ?_)
      obtain ⟨A1, c1, rfl, hrd1⟩ := Rd.of_own (E := ECell) (hw1.has Has.head) rfl
      refine RW.callR rfl ca33 rfl (fun w' hw' => Mend_c w' _ A1 L.length c1 L (hrd1.ext hw'.ext (by simp)) hLl) ?_
      intro w2 w3 A2 m2 c2 hw2 he3 hw3 hrd2
      have hm2 := hrd2.len
      rw [mendL_length] at hm2
      refine RW.assign rfl rfl ?_
      refine RW.nil (EX.seq (CW.seq (CW.region ?_)))
      refine RW.move rfl rfl ?_
      refine RW.move rfl rfl ?_
      -- mq: op 2: ('Op.call', ('Call.mk', ('Callee.value', ('Operand.func', '34')), ('arr', ('Operand.tmp', '33')), ('arr', '22'))) -> slot 34 ("flow.go:38")
      refine RW.call rfl ca34 rfl (fun w' hw' => Used_c w' _ A2 m2 c2 _ (hrd2.ext hw'.ext (by simp)) (by omega)) ?_
      have hul := usedL_le (mendL L)
      rw [mendL_length] at hul
      have hcap := hrd2.cap
      refine RW.sliceSl 0 (usedL (mendL L)) sl22 rfl rfl (.inr ⟨rfl, rfl⟩) (.inl ⟨_, _, rfl, rfl, rfl⟩) (by omega) (by omega) ?_
      refine RW.assign rfl rfl ?_
      refine RW.nil (EX.seq (CW.ret ?_))
      refine EX.fin1 Try.results17 rfl (fun wz hw => ?_)
      -- mq: done
      have hcut := hrd2.cut (p := 0) (q := usedL (mendL L)) (by omega) (by omega)
      refine ⟨_, _, _, rfl, (hw1.ext.trans0 hw2.ext).trans0 (he3.trans0 hw.ext), ?_⟩
      have h5 := (hcut.ext0 hw.ext).weak (F' := fun k => w.heap.size ≤ k) (fun k hk => Nat.le_trans (Nat.le_trans hw1.ext.size hw2.ext.size) hk)
      rw [List.drop_zero] at h5
      subst hL
      exact h5

def unpad (c : CellV) : CellV := if c.half = 3 then emptyC c.at_ else c
def plainF (l : List CellV) : List CellV := mendL (l.map unpad)
theorem plainF_length (l : List CellV) : (plainF l).length = l.length := by rw [plainF, mendL_length, List.length_map]
theorem plain_c (w : World) (F : Nat → Prop) (A : Option Addr) (n c : Nat) (l : List CellV) (hr : Rd ECell w F A n c l) (hn : n ≤ 1000000) :
    Calls Try.prog 31 [.slice A n c].toArray w (RetSl ECell w (plainF l)) := by
  have hl := hr.len
  refine calls (n := 27) Try.func31 rfl Try.ntmps31 rfl ?_
  refine CW.sub (H' := SH w [] []) ?_ (Sub.refl _) (fun x hx => SH.start' _ _ hx)
  refine CW.ownNil 34 8 ?_
  refine CW.seq (CW.region ?_)
  refine RW.assign rfl rfl ?_
  refine RW.nil (EX.seq (CW.seq (CW.region ?_)))
  refine RW.move rfl rfl ?_
  refine RW.appendSl (E := ECell) sl22 rfl rfl rfl (fun _ => by first | exact Upd.head | exact Upd.tail Upd.head | exact Upd.tail (Upd.tail Upd.head) | exact Upd.tail (Upd.tail (Upd.tail Upd.head)) | exact Upd.tail (Upd.tail (Upd.tail (Upd.tail Upd.head))) | exact Upd.tail (Upd.tail (Upd.tail (Upd.tail (Upd.tail Upd.head)))) | exact Upd.tail (Upd.tail (Upd.tail (Upd.tail (Upd.tail (Upd.tail Upd.head)))))) (fun w' hw' => hr.ext hw'.ext (by simp)) (by simp only [maxLen]; omega) (by omega) (fun v7 hv7 => ?_)
  refine RW.assign rfl rfl ?_
  refine RW.nil (EX.seq (CW.seq (CW.seq ?_)))
  -- mq: region
  refine CW.formOwn (v := v7) Has.head (fun A0 c0 hv0 hcap0 hmax0 hlen0 hg0 => ?_)
  subst hv0
  rw [Nat.zero_add] at *
  refine CW.region ?_
  refine RW.move rfl rfl ?_
  refine RW.lenSl Try.underlying22 rfl rfl ?_
  refine RW.move rfl rfl ?_
  refine RW.nil (EX.seq (CW.block ?_))
  -- mq: loop
  refine CW.loop (ι := List CellV × List CellV) (fun i => [(3, .slice A0 n c0), (8, .slice A0 n c0), (9, .int .i64 (n : Int)), (10, .int .i64 (i.1.length : Int))]) (fun i => SH w [] [own 34 8 (.slice A0 n c0) n (ECell.all (i.1.map unpad ++ i.2))]) (fun i => l = i.1 ++ i.2) (fun i => i.2.length) ?_ ?_
  · exact fun w hw => ⟨([], l), rfl, (by repeat (first | exact Sub.nil | refine Sub.cons (by rfl) ?_)), hw⟩
  · rintro ⟨pre, rest⟩ hsp
    dsimp only at hsp ⊢
    have hpl : pre.length + rest.length = n := by rw [← hl, hsp, List.length_append]
    refine CW.seq (CW.region ?_)
    refine RW.lss rfl rfl rfl ?_
    refine RW.nil (EX.seq (CW.seq ?_))
    -- mq: cond
    first | refine CW.condD rfl (fun hlt => ?_) (fun hlt => ?_) | refine CW.cond rfl (fun hlt => ?_) (fun hlt => ?_)
    · skip
      cases rest with
      | nil => simp at hpl; omega
      | cons x rest =>
      obtain ⟨g, rfl⟩ := hg0 (by omega)
      have hk : (pre.map unpad ++ x :: rest)[pre.length]? = some x := by simp [List.getElem?_append_right]
      refine CW.skip (EX.seq (CW.seq (CW.block (CW.seq (CW.region ?_)))))
      refine RW.move rfl rfl ?_
      refine RW.ixAddr sl22 rfl rfl rfl (by first | rfl | assumption) (by rfl) (by omega) ?_
      refine RW.loadA ag34 rfl rfl (rfl) (fun w' hw' j u hj => hw'.own_at (E := ECell) Has.head hk j u hj) ?_
      refine RW.allocA ag34 rfl (fun g5 hg5 hf5 => ?_)
      refine RW.assign rfl rfl ?_
      refine RW.storeA ag34 rfl rfl (by first | exact Upd.head | exact Upd.tail Upd.head | exact Upd.tail (Upd.tail Upd.head) | exact Upd.tail (Upd.tail (Upd.tail Upd.head)) | exact Upd.tail (Upd.tail (Upd.tail (Upd.tail Upd.head))) | exact Upd.tail (Upd.tail (Upd.tail (Upd.tail (Upd.tail Upd.head)))) | exact Upd.tail (Upd.tail (Upd.tail (Upd.tail (Upd.tail (Upd.tail Upd.head)))))) (by first | rfl | exact Enc.len _ _) (by repeat (first | exact Ones.nil | exact Enc.ones _ _ | refine Ones.cons rfl ?_)) (by first | exact Nat.le_of_ble_eq_true rfl | (simp only [Enc.len]; decide)) ?_
      refine RW.nil (EX.seq (CW.seq (CW.region ?_)))
      refine RW.fieldB fl34x2 rfl rfl ?_
      refine RW.loadB1 sc3 rfl rfl (by first | exact Has.head | exact Has.tail Has.head | exact Has.tail (Has.tail Has.head) | exact Has.tail (Has.tail (Has.tail Has.head)) | exact Has.tail (Has.tail (Has.tail (Has.tail Has.head))) | exact Has.tail (Has.tail (Has.tail (Has.tail (Has.tail Has.head)))) | exact Has.tail (Has.tail (Has.tail (Has.tail (Has.tail (Has.tail Has.head)))))) rfl ?_
      refine RW.eqlI rfl rfl rfl ?_
      refine RW.nil (EX.seq ?_)
      -- mq: cond
      first | refine CW.condD rfl (fun h3 => ?_) (fun h3 => ?_) | refine CW.cond rfl (fun h3 => ?_) (fun h3 => ?_)
      · skip
        refine CW.region ?_
        refine RW.move rfl rfl ?_
        refine RW.move rfl rfl ?_
        refine RW.fieldB fl34x3 rfl rfl ?_
        refine RW.loadBA ag32 rfl rfl (by first | exact Has.head | exact Has.tail Has.head | exact Has.tail (Has.tail Has.head) | exact Has.tail (Has.tail (Has.tail Has.head)) | exact Has.tail (Has.tail (Has.tail (Has.tail Has.head))) | exact Has.tail (Has.tail (Has.tail (Has.tail (Has.tail Has.head)))) | exact Has.tail (Has.tail (Has.tail (Has.tail (Has.tail (Has.tail Has.head)))))) rfl rfl ?_
        refine RW.buildS bu34 rfl rfl rfl ?_
        refine RW.ixAddr sl22 rfl rfl rfl (by first | rfl | assumption) (by rfl) (by omega) ?_
        refine RW.storeOwnA (o := pre.length * 8) ag34 rfl rfl (by first | exact Upd.head | exact Upd.tail Upd.head | exact Upd.tail (Upd.tail Upd.head) | exact Upd.tail (Upd.tail (Upd.tail Upd.head)) | exact Upd.tail (Upd.tail (Upd.tail (Upd.tail Upd.head))) | exact Upd.tail (Upd.tail (Upd.tail (Upd.tail (Upd.tail Upd.head)))) | exact Upd.tail (Upd.tail (Upd.tail (Upd.tail (Upd.tail (Upd.tail Upd.head)))))) (by simp [Addr.add_lit]) rfl (ECell.ones (emptyC x.at_)) (by rw [ECell.all_length]; show pre.length * 8 + 8 ≤ _ * 8; simp; omega) ?_
        refine RW.nil (EX.bkN (EX.seq (CW.region ?_)))
        refine RW.add rfl rfl rfl (wrap64 (by omega) (by omega)) ?_
        refine RW.move rfl rfl ?_
        refine RW.nil ?_
        -- mq: loopend
        refine EX.lpN (pre ++ [x], rest) (by simp [hsp]) (by simp) (Sub.cons (by rfl) (Sub.cons (by rfl) (Sub.cons (by rfl) (Sub.cons (by simp [look]) Sub.nil)))) (fun w' hw' => ?_)
        have hs := ECell.splice_all (L := pre.map unpad ++ x :: rest) (i := pre.length) (emptyC x.at_) (by simp)
        have hset : (pre.map unpad ++ x :: rest).set pre.length (emptyC x.at_) = (pre ++ [x]).map unpad ++ rest := by simp [unpad, h3]
        rw [hset] at hs
        have := hw'.rem Rem.head
        dsimp only
        rw [← hs]
        exact this
      · skip
        refine CW.skip (EX.bkN (EX.seq (CW.region ?_)))
        refine RW.add rfl rfl rfl (wrap64 (by omega) (by omega)) ?_
        refine RW.move rfl rfl ?_
        refine RW.nil ?_
        -- mq: loopend
        refine EX.lpN (pre ++ [x], rest) (by simp [hsp]) (by simp) (Sub.cons (by rfl) (Sub.cons (by rfl) (Sub.cons (by rfl) (Sub.cons (by simp [look]) Sub.nil)))) (fun w' hw' => ?_)
        have := hw'.rem Rem.head
        simpa [unpad, h3] using this
    · skip
      have hr0 : rest = [] := List.eq_nil_of_length_eq_zero (by omega)
      subst hr0
      rw [List.append_nil] at hsp
      subst hsp
      refine CW.exit (EX.seqE (EX.lpE (EX.bkE (EX.seq (CW.seq (CW.region ?_))))))
      refine RW.move rfl rfl ?_
      -- mq: at
      refine RW.rebase (fun w1 hw1 => ?_)
      have hown : w1.ownsRow 0 34 8 (.slice A0 n c0) n (ECell.all (l.map unpad)) := by
        have := hw1.has Has.head
        rw [List.append_nil] at this
        exact this
      obtain ⟨A1, c1, he1, hrd1⟩ := Rd.of_own (E := ECell) hown (by rw [List.length_map, hl])
      cases he1
      refine RW.callR rfl ca33 rfl (fun w' hw' => Mend_c w' _ A0 n c0 _ (hrd1.ext hw'.ext (by simp)) hn) ?_
      intro w2 w3 A2 m2 c2 hw2 he3 hw3 hrd2
      refine RW.assign rfl rfl ?_
      refine RW.nil (EX.seq (CW.ret ?_))
      refine EX.fin1 Try.results31 rfl (fun wz hw => ?_)
      -- mq: done
      exact ⟨_, _, _, rfl, (hw1.ext.trans0 hw2.ext).trans0 (he3.trans0 hw.ext), (hrd2.ext0 hw.ext).weak (fun k hk => Nat.le_trans (Nat.le_trans hw1.ext.size hw2.ext.size) hk)⟩
def takeF (l : List CellV) (cols : Nat) : Nat :=
  if l.length < cols then l.length else if (l[cols - 1]?.map (·.half)) = some 1 then cols - 1 else cols
theorem take_c (w : World) (F : Nat → Prop) (A : Option Addr) (n c : Nat) (l : List CellV) (cols : Nat) (hr : Rd ECell w F A n c l) (hn : n ≤ 4000000) (hc1 : 1 ≤ cols) (hc2 : cols ≤ 1000) :
    Calls Try.prog 32 [.slice A n c, .int .i64 (cols : Int)].toArray w (fun e w' => e = .returned (.int .i64 (takeF l cols : Int)) ∧ Ext [] w w') := by
  have hl := hr.len
  refine calls (n := 21) Try.func32 rfl Try.ntmps32 rfl ?_
  refine CW.sub (H' := SH w [] []) ?_ (Sub.refl _) (fun x hx => SH.start' _ _ hx)
  refine CW.seq (CW.region ?_)
  refine RW.assign rfl rfl ?_
  refine RW.nil (EX.seq (CW.seq (CW.seq (CW.region ?_))))
  refine RW.move rfl rfl ?_
  refine RW.lenSl Try.underlying22 rfl rfl ?_
  refine RW.move rfl rfl ?_
  refine RW.lss rfl rfl rfl ?_
  refine RW.nil (EX.seq ?_)
  -- mq: cond
  first | refine CW.condD rfl (fun h1 => ?_) (fun h1 => ?_) | refine CW.cond rfl (fun h1 => ?_) (fun h1 => ?_)
  · skip
    refine CW.seq (CW.region ?_)
    refine RW.move rfl rfl ?_
    refine RW.lenSl Try.underlying22 rfl rfl ?_
    refine RW.assign rfl rfl ?_
    refine RW.nil (EX.seq (CW.ret (EX.seqR ?_)))
    refine EX.fin1 Try.results32 rfl (fun wz hw => ?_)
    -- mq: done
    exact ⟨by rw [takeF, if_pos (by omega), hl], hw.ext⟩
  · skip
    obtain ⟨x, hx⟩ : ∃ x, l[cols - 1]? = some x := ⟨l[cols - 1]'(by omega), List.getElem?_eq_getElem _⟩
    obtain ⟨ad, hA, _, hcell⟩ := hr.at_ hx
    refine CW.skip (EX.seq (CW.seq (CW.seq (CW.region ?_))))
    refine RW.move rfl rfl ?_
    refine RW.move rfl rfl ?_
    refine RW.sub_ rfl rfl rfl (wrap64 (by omega) (by omega)) ?_
    refine RW.ixAddr (q := cols - 1) sl22 rfl rfl rfl (by first | rfl | assumption) (by omega) (by omega) ?_
    refine RW.fieldP fl34x2 rfl rfl ?_
    refine RW.load1 sc3 rfl rfl (fun w' hw' => hw'.base_cell (hcell 2 _ rfl) (by simp)) ?_
    refine RW.eqlI rfl rfl rfl ?_
    refine RW.nil (EX.seq ?_)
    -- mq: cond
    first | refine CW.condD rfl (fun h2 => ?_) (fun h2 => ?_) | refine CW.cond rfl (fun h2 => ?_) (fun h2 => ?_)
    · skip
      refine CW.seq (CW.region ?_)
      refine RW.move rfl rfl ?_
      refine RW.sub_ rfl rfl rfl (wrap64 (by omega) (by omega)) ?_
      refine RW.assign rfl rfl ?_
      refine RW.nil (EX.seq (CW.ret (EX.seqR ?_)))
      refine EX.fin1 Try.results32 rfl (fun wz hw => ?_)
      -- mq: done
      refine ⟨?_, hw.ext⟩
      rw [takeF, if_neg (by omega), if_pos (by rw [hx]; simp [h2]), show ((cols - 1 : Nat) : Int) = (cols : Int) - 1 by omega]
    · skip
      refine CW.skip (EX.seq (CW.seq (CW.region ?_)))
      refine RW.move rfl rfl ?_
      refine RW.assign rfl rfl ?_
      refine RW.nil (EX.seq (CW.ret ?_))
      refine EX.fin1 Try.results32 rfl (fun wz hw => ?_)
      -- mq: done
      refine ⟨?_, hw.ext⟩
      rw [takeF, if_neg (by omega), if_neg (by rw [hx]; simpa using h2)]
end Go.Proofs.Ytmdmdlfdijdhgaa.Mq
