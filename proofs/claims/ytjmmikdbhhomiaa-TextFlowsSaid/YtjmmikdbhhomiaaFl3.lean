/- text: chapter 8 for this seat: Place1, Place2, Place3 (printed by gen_flow.py) -/
import Derived.Test.YtjmmikdbhhomiaaFl2
import Derived.Laws.Shifts
namespace Go.Proofs.Ytjmmikdbhhomiaa.Mq
open Go Go.RowKit Go.Proofs

theorem zeros_all0 {α : Type} (E : Enc α) (a : α) (m : Nat) : zeros (E.enc a) m = E.all (List.replicate m a) := by
  induction m with
  | zero => simp [zeros, Enc.all]
  | succ m ih =>
    have : ∀ (l : List α), E.all (a :: l) = E.enc a ++ E.all l := fun l => by simp [Enc.all]
    rw [List.replicate_succ, this, zeros, ih]
theorem mem_sumLen0 : ∀ {rows : List RowL} {row : RowL}, row ∈ rows → row.1.length ≤ sumLen rows
  | r :: rows, row, h => by
    have hc : sumLen (r :: rows) = r.1.length + sumLen rows := by simp [sumLen]
    rcases List.mem_cons.1 h with rfl | h
    · omega
    · have := mem_sumLen0 h
      omega
def cntR (l : List CellV) : Nat := (l.filter (fun c => decide (c.half ≠ 3))).length
def cnt (rows : List RowL) (k : Nat) : Nat := (cellsOf (rows.take k)).length
theorem cnt_zero (rows : List RowL) : cnt rows 0 = 0 := rfl
theorem cnt_succ {rows : List RowL} {k : Nat} {row : RowL} (h : rows[k]? = some row) : cnt rows (k + 1) = cnt rows k + cntR row.1 := by
  rw [cnt, take_snoc' h, cellsOf_snoc, List.length_append]; rfl
theorem cnt_le (rows : List RowL) (k : Nat) : cnt rows k ≤ sumLen rows := Nat.le_trans (cellsOf_le _) (sumLen_take_le rows k)
theorem cnt_mono {rows : List RowL} {j k : Nat} (h : j ≤ k) : cnt rows j ≤ cnt rows k := by
  have : rows.take k = rows.take j ++ (rows.take k).drop j := by
    conv => lhs; rw [← List.take_append_drop j (rows.take k), List.take_take, Nat.min_eq_left h]
  rw [cnt, cnt, this]
  simp [cellsOf]
theorem cntR_le (l : List CellV) : cntR l ≤ l.length := List.length_filter_le _ _
theorem cntR_snoc {l : List CellV} {k : Nat} {x : CellV} (hx : l[k]? = some x) : cntR (l.take (k + 1)) = if x.half ≠ 3 then cntR (l.take k) + 1 else cntR (l.take k) := by
  unfold cntR
  rw [take_snoc' hx, filter_snoc]
  by_cases h : x.half = 3 <;> simp [h]
theorem size_c (w : World) (F : Nat → Prop) (A : Option Addr) (n c : Nat) (l : List CellV) (b : Bool) (hr : Rd ECell w F A n c l) (hn : n ≤ 1000000) :
    Calls Try.prog 35 [.agg [.slice A n c, .bool b].toArray].toArray w (fun e w' => e = .returned (.int .i64 (cntR l : Int)) ∧ Ext [] w w') := by
  have hl := hr.len
  refine calls (n := 20) Try.func35 rfl Try.ntmps35 rfl ?_
  refine CW.sub (H' := SH w [] []) ?_ (Sub.refl _) (fun x hx => SH.start' _ _ hx)
  refine CW.seq (CW.region ?_)
  refine RW.boxA rfl rfl (fun g1 hg1 hf1 => ?_)
  refine RW.assign rfl rfl ?_
  refine RW.nil (EX.seq (CW.seq (CW.region ?_)))
  refine RW.assign rfl rfl ?_
  refine RW.nil (EX.seq (CW.seq (CW.seq (CW.region ?_))))
  refine RW.fieldB fl31x0 rfl rfl ?_
  refine RW.loadB1 sc29 rfl rfl (by first | exact Has.head | exact Has.tail Has.head | exact Has.tail (Has.tail Has.head) | exact Has.tail (Has.tail (Has.tail Has.head)) | exact Has.tail (Has.tail (Has.tail (Has.tail Has.head))) | exact Has.tail (Has.tail (Has.tail (Has.tail (Has.tail Has.head)))) | exact Has.tail (Has.tail (Has.tail (Has.tail (Has.tail (Has.tail Has.head)))))) rfl ?_
  refine RW.lenSl Try.underlying29 rfl rfl ?_
  refine RW.move rfl rfl ?_
  refine RW.nil (EX.seq (CW.block ?_))
  -- mq: loop
  refine CW.loop (ι := Nat) (fun i => [(3, .int .i64 (cntR (l.take i) : Int)), (7, .slice A n c), (8, .int .i64 (n : Int)), (9, .int .i64 (i : Int))]) (fun _ => SH w [] []) (fun i => i ≤ n) (fun i => n - i) ?_ ?_
  · exact fun w hw => ⟨0, Nat.zero_le _, (by repeat (first | exact Sub.nil | refine Sub.cons (by rfl) ?_)), hw.rem Rem.head⟩
  · rintro j hj
    have hcl := cntR_le (l.take j)
    rw [List.length_take] at hcl
    refine CW.seq (CW.region ?_)
    refine RW.lss rfl rfl rfl ?_
    refine RW.nil (EX.seq (CW.seq ?_))
    -- mq: cond
    first | refine CW.condD rfl (fun hjt => ?_) (fun hjt => ?_) | refine CW.cond rfl (fun hjt => ?_) (fun hjt => ?_)
    · skip
      obtain ⟨x, hx⟩ : ∃ x, l[j]? = some x := ⟨l[j]'(by omega), List.getElem?_eq_getElem _⟩
      obtain ⟨bd, hB, _, hxc⟩ := hr.at_ hx
      have hcs := cntR_snoc hx
      refine CW.skip (EX.seq (CW.seq (CW.block (CW.seq (CW.region ?_)))))
      refine RW.ixAddr sl29 rfl rfl rfl (by first | rfl | assumption) (by rfl) (by omega) ?_
      refine RW.loadA ag37 rfl rfl (rfl) (fun w' hw' j u hj => hw'.base_cell (hxc j u hj) (by simp)) ?_
      refine RW.allocA ag37 rfl (fun g5 hg5 hf5 => ?_)
      refine RW.storeA ag37 rfl rfl (by first | exact Upd.head | exact Upd.tail Upd.head | exact Upd.tail (Upd.tail Upd.head) | exact Upd.tail (Upd.tail (Upd.tail Upd.head)) | exact Upd.tail (Upd.tail (Upd.tail (Upd.tail Upd.head))) | exact Upd.tail (Upd.tail (Upd.tail (Upd.tail (Upd.tail Upd.head)))) | exact Upd.tail (Upd.tail (Upd.tail (Upd.tail (Upd.tail (Upd.tail Upd.head)))))) (by first | rfl | exact Enc.len _ _) (by repeat (first | exact Ones.nil | exact Enc.ones _ _ | refine Ones.cons rfl ?_)) (by first | exact Nat.le_of_ble_eq_true rfl | (simp only [Enc.len]; decide)) ?_
      refine RW.nil (EX.seq (CW.seq (CW.region ?_)))
      refine RW.fieldB fl37x2 rfl rfl ?_
      refine RW.loadB1 sc3 rfl rfl (by first | exact Has.head | exact Has.tail Has.head | exact Has.tail (Has.tail Has.head) | exact Has.tail (Has.tail (Has.tail Has.head)) | exact Has.tail (Has.tail (Has.tail (Has.tail Has.head))) | exact Has.tail (Has.tail (Has.tail (Has.tail (Has.tail Has.head)))) | exact Has.tail (Has.tail (Has.tail (Has.tail (Has.tail (Has.tail Has.head)))))) rfl ?_
      refine RW.neqI rfl rfl rfl ?_
      refine RW.nil (EX.seq ?_)
      -- mq: cond
      first | refine CW.condD rfl (fun h3 => ?_) (fun h3 => ?_) | refine CW.cond rfl (fun h3 => ?_) (fun h3 => ?_)
      · skip
        refine CW.region ?_
        refine RW.move rfl rfl ?_
        refine RW.add rfl rfl rfl (wrap64 (by omega) (by omega)) ?_
        refine RW.assign rfl rfl ?_
        refine RW.nil (EX.bkN (EX.seq (CW.region ?_)))
        refine RW.add rfl rfl rfl (wrap64 (by omega) (by omega)) ?_
        refine RW.move rfl rfl ?_
        refine RW.nil ?_
        -- mq: loopend
        rw [if_pos h3] at hcs
        exact EX.lpN (j + 1) (by omega) (by omega) (Sub.cons (by rw [hcs]; rfl) (by repeat (first | exact Sub.nil | refine Sub.cons (by rfl) ?_))) (fun w' hw' => hw'.rem Rem.head)
      · skip
        refine CW.skip (EX.bkN (EX.seq (CW.region ?_)))
        refine RW.add rfl rfl rfl (wrap64 (by omega) (by omega)) ?_
        refine RW.move rfl rfl ?_
        refine RW.nil ?_
        -- mq: loopend
        rw [if_neg h3] at hcs
        exact EX.lpN (j + 1) (by omega) (by omega) (Sub.cons (by rw [hcs]; rfl) (by repeat (first | exact Sub.nil | refine Sub.cons (by rfl) ?_))) (fun w' hw' => hw'.rem Rem.head)
    · skip
      refine CW.exit (EX.seqE (EX.lpE (EX.bkE (EX.seq (CW.seq (CW.region ?_))))))
      refine RW.move rfl rfl ?_
      refine RW.assign rfl rfl ?_
      refine RW.nil (EX.seq (CW.ret ?_))
      refine EX.fin1 Try.results35 rfl (fun wz hw => ?_)
      -- mq: done
      have hjn : j = n := by omega
      subst hjn
      exact ⟨by rw [List.take_of_length_le (by omega)], hw.ext⟩
/-- up to the end of each row -/
def sumsL (rows : List RowL) : List Int := (List.range rows.length).map (fun k => (cnt rows (k + 1) : Int))
theorem sumsL_length (rows : List RowL) : (sumsL rows).length = rows.length := by simp [sumsL]
theorem sumsL_get {rows : List RowL} {k : Nat} (h : k < rows.length) : (sumsL rows)[k]? = some (cnt rows (k + 1) : Int) := by simp [sumsL, h]
theorem zeros_int (m : Nat) : zeros [.int .i64 0] m = EInt.all (List.replicate m (0 : Int)) := zeros_all0 EInt (0 : Int) m
theorem sums_c (w : World) (F : Nat → Prop) (A : Option Addr) (n c : Nat) (rows : List RowL) (hr : RdRows w F A n c rows) (hn : n ≤ 1000000) (hm : sumLen rows ≤ 1000000) :
    Calls Try.prog 19 [.slice A n c].toArray w (RetSl EInt w (sumsL rows)) := by
  have hl := hr.len
  refine calls (n := 27) Try.func19 rfl Try.ntmps19 rfl ?_
  refine CW.sub (H' := SH w [] []) ?_ (Sub.refl _) (fun x hx => SH.start' _ _ hx)
  refine CW.seq (CW.region ?_)
  refine RW.assign rfl rfl ?_
  refine RW.nil (EX.seq (CW.seq (CW.region ?_)))
  refine RW.move rfl rfl ?_
  refine RW.lenSl Try.underlying22 rfl rfl ?_
  refine RW.make n sl54 rfl rfl rfl rfl (by simp only [maxLen]; omega) (by omega) (fun g hgl hgf => ?_)
  refine RW.assign rfl rfl ?_
  refine RW.nil (EX.seq (CW.seq ?_))
  -- mq: region
  rw [zeros_int]
  refine CW.region ?_
  refine RW.assign rfl rfl ?_
  refine RW.nil (EX.seq (CW.seq (CW.seq (CW.region ?_))))
  refine RW.move rfl rfl ?_
  refine RW.lenSl Try.underlying22 rfl rfl ?_
  refine RW.move rfl rfl ?_
  refine RW.nil (EX.seq (CW.block ?_))
  -- mq: loop
  refine CW.loop (ι := Nat) (fun i => [(3, .slice (some ⟨g, 0, none⟩) n n), (4, .int .i64 (cnt rows i : Int)), (10, .slice A n c), (11, .int .i64 (n : Int)), (12, .int .i64 (i : Int))]) (fun i => SH w [] [own 3 1 (.slice (some ⟨g, 0, none⟩) n n) n (EInt.all ((sumsL rows).take i ++ List.replicate (n - i) 0))]) (fun i => i ≤ n) (fun i => n - i) ?_ ?_
  · exact fun w hw => ⟨0, Nat.zero_le _, (by repeat (first | exact Sub.nil | refine Sub.cons (by rfl) ?_)), by simpa using hw⟩
  · rintro j hj
    refine CW.seq (CW.region ?_)
    refine RW.lss rfl rfl rfl ?_
    refine RW.nil (EX.seq (CW.seq ?_))
    -- mq: cond
    first | refine CW.condD rfl (fun hjt => ?_) (fun hjt => ?_) | refine CW.cond rfl (fun hjt => ?_) (fun hjt => ?_)
    · skip
      obtain ⟨row, hrow⟩ : ∃ row, rows[j]? = some row := ⟨rows[j]'(by omega), List.getElem?_eq_getElem _⟩
      obtain ⟨ad, B, m, d, hA, _, hcell, hrd⟩ := hr.at_ hrow
      have hcs := cnt_succ hrow
      have hcl := cnt_le rows (j + 1)
      have hrm := hrd.len
      have hrl : row.1.length ≤ sumLen rows := mem_sumLen0 (List.mem_of_getElem? hrow)
      have hget := sumsL_get (rows := rows) (k := j) (by omega)
      have htl : ((sumsL rows).take j).length = j := by rw [List.length_take, sumsL_length]; omega
      have hX : ((sumsL rows).take j ++ List.replicate (n - j) (0 : Int))[j]? = some 0 := by
        rw [List.getElem?_append_right (by omega), htl, Nat.sub_self, List.getElem?_replicate, if_pos (by omega)]
      have hset := EInt.all_set (j := 0) (a' := (cnt rows (j + 1) : Int)) (v := .int .i64 (cnt rows (j + 1) : Int)) hX (by decide) rfl
      rw [List.set_append_right _ _ (by omega), htl, Nat.sub_self, show n - j = (n - (j + 1)) + 1 by omega, List.replicate_succ, List.set_cons_zero, show j * EInt.sz + 0 = j by simp [EInt]] at hset
      refine CW.skip (EX.seq (CW.seq (CW.block (CW.seq (CW.region ?_)))))
      refine RW.move rfl rfl ?_
      refine RW.ixAddr sl22 rfl rfl rfl (by first | rfl | assumption) (by rfl) (by omega) ?_
      refine RW.loadA ag31 rfl rfl (rfl) (fun w' hw' j u hj => hw'.base_cell (hcell j u hj) (by simp)) ?_
      refine RW.allocA ag31 rfl (fun g6 hg6 hf6 => ?_)
      refine RW.assign rfl rfl ?_
      refine RW.storeA ag31 rfl rfl (by first | exact Upd.head | exact Upd.tail Upd.head | exact Upd.tail (Upd.tail Upd.head) | exact Upd.tail (Upd.tail (Upd.tail Upd.head)) | exact Upd.tail (Upd.tail (Upd.tail (Upd.tail Upd.head))) | exact Upd.tail (Upd.tail (Upd.tail (Upd.tail (Upd.tail Upd.head)))) | exact Upd.tail (Upd.tail (Upd.tail (Upd.tail (Upd.tail (Upd.tail Upd.head)))))) (by first | rfl | exact Enc.len _ _) (by repeat (first | exact Ones.nil | exact Enc.ones _ _ | refine Ones.cons rfl ?_)) (by first | exact Nat.le_of_ble_eq_true rfl | (simp only [Enc.len]; decide)) ?_
      refine RW.nil (EX.seq (CW.seq ?_))
      -- mq: region
      refine CW.region ?_
      refine RW.move rfl rfl ?_
      refine RW.loadBA ag31 rfl rfl (by first | exact Has.head | exact Has.tail Has.head | exact Has.tail (Has.tail Has.head) | exact Has.tail (Has.tail (Has.tail Has.head)) | exact Has.tail (Has.tail (Has.tail (Has.tail Has.head))) | exact Has.tail (Has.tail (Has.tail (Has.tail (Has.tail Has.head)))) | exact Has.tail (Has.tail (Has.tail (Has.tail (Has.tail (Has.tail Has.head)))))) rfl rfl ?_
      refine RW.call rfl ca35 rfl (fun w' hw' => size_c w' _ B m d row.1 row.2 (hrd.ext hw'.ext (by simp)) (by omega)) ?_
      refine RW.add rfl rfl rfl (wrap64 (by omega) (by omega)) ?_
      refine RW.assign rfl rfl ?_
      refine RW.nil (EX.seq ?_)
      -- mq: region
      rw [show (cnt rows j : Int) + (cntR row.1 : Int) = (cnt rows (j + 1) : Int) by omega]
      refine CW.region ?_
      refine RW.move rfl rfl ?_
      refine RW.move rfl rfl ?_
      refine RW.move rfl rfl ?_
      refine RW.ixAddr (q := j) sl54 rfl rfl rfl (by first | rfl | assumption) (by omega) (by omega) ?_
      refine RW.storeOwn1 (o := j) sc3 rfl rfl (by first | exact Upd.head | exact Upd.tail Upd.head | exact Upd.tail (Upd.tail Upd.head) | exact Upd.tail (Upd.tail (Upd.tail Upd.head)) | exact Upd.tail (Upd.tail (Upd.tail (Upd.tail Upd.head))) | exact Upd.tail (Upd.tail (Upd.tail (Upd.tail (Upd.tail Upd.head)))) | exact Upd.tail (Upd.tail (Upd.tail (Upd.tail (Upd.tail (Upd.tail Upd.head)))))) (by simp [Addr.add_lit]) rfl (by rw [EInt.all_length]; show _ < _ * 1; simp [sumsL_length]; omega) ?_
      refine RW.nil (EX.bkN (EX.seq (CW.region ?_)))
      refine RW.add rfl rfl rfl (wrap64 (by omega) (by omega)) ?_
      refine RW.move rfl rfl ?_
      refine RW.nil ?_
      -- mq: loopend
      refine EX.lpN (j + 1) (by omega) (by omega) (by repeat (first | exact Sub.nil | refine Sub.cons (by rfl) ?_)) (fun w' hw' => ?_)
      have := hw'.rem Rem.head
      rw [show n - j = (n - (j + 1)) + 1 by omega, List.replicate_succ, hset] at this
      rw [take_snoc' hget, List.append_assoc]
      simpa using this
    · skip
      refine CW.exit (EX.seqE (EX.lpE (EX.bkE (EX.seq (CW.seq (CW.region ?_))))))
      refine RW.move rfl rfl ?_
      refine RW.assign rfl rfl ?_
      refine RW.nil (EX.seq (CW.ret ?_))
      refine EX.fin1 Try.results19 rfl (fun wz hw => ?_)
      -- mq: done
      have hjn : j = n := by omega
      subst hjn
      have hown := hw.has Has.head
      rw [Nat.sub_self, List.replicate_zero, List.append_nil, List.take_of_length_le (by rw [sumsL_length]; omega)] at hown
      exact RetSl.of_own hw.ext hown (by rw [sumsL_length]; exact hl) (fun k hk => by simp only [Value.ownBlock, Option.some.injEq] at hk; omega)
theorem ahead_c (w : World) (F : Nat → Prop) (A : Option Addr) (n c : Nat) (rows : List RowL) (hr : Rd EInt w F A n c (sumsL rows)) (k : Nat) (hk : k ≤ n) (hn : n ≤ 1000000) :
    Calls Try.prog 38 [.slice A n c, .int .i64 (k : Int)].toArray w (fun e w' => e = .returned (.int .i64 (cnt rows k : Int)) ∧ Ext [] w w') := by
  have hl := hr.len
  rw [sumsL_length] at hl
  refine calls (n := 12) Try.func38 rfl Try.ntmps38 rfl ?_
  refine CW.sub (H' := SH w [] []) ?_ (Sub.refl _) (fun x hx => SH.start' _ _ hx)
  refine CW.seq (CW.region ?_)
  refine RW.assign rfl rfl ?_
  refine RW.nil (EX.seq (CW.seq (CW.seq (CW.region ?_))))
  refine RW.move rfl rfl ?_
  refine RW.leq rfl rfl rfl ?_
  refine RW.nil (EX.seq ?_)
  -- mq: cond
  first | refine CW.condD rfl (fun h0 => ?_) (fun h0 => ?_) | refine CW.cond rfl (fun h0 => ?_) (fun h0 => ?_)
  · skip
    refine CW.seq (CW.region ?_)
    refine RW.assign rfl rfl ?_
    refine RW.nil (EX.seq (CW.ret (EX.seqR ?_)))
    refine EX.fin1 Try.results38 rfl (fun wz hw => ?_)
    -- mq: done
    have : k = 0 := by omega
    subst this
    exact ⟨rfl, hw.ext⟩
  · skip
    obtain ⟨k, rfl⟩ : ∃ j, k = j + 1 := ⟨k - 1, by omega⟩
    obtain ⟨ad, hA, _, hcell⟩ := hr.at_ (sumsL_get (rows := rows) (k := k) (by omega))
    refine CW.skip (EX.seq (CW.seq (CW.region ?_)))
    refine RW.move rfl rfl ?_
    refine RW.move rfl rfl ?_
    refine RW.sub_ rfl rfl rfl (wrap64 (by omega) (by omega)) ?_
    refine RW.ixAddr (q := k) sl54 rfl rfl rfl (by first | rfl | assumption) (by omega) (by omega) ?_
    refine RW.load1 sc3 rfl rfl (fun w' hw' => hw'.base_cell (hcell 0 _ rfl) (by simp)) ?_
    refine RW.assign rfl rfl ?_
    refine RW.nil (EX.seq (CW.ret ?_))
    refine EX.fin1 Try.results38 rfl (fun wz hw => ?_)
    -- mq: done
    exact ⟨rfl, hw.ext⟩
/-- a place's offset -/
def offR (rows : List RowL) (p : PosV) : Int :=
  if p.row < 0 then 0 else if (rows.length : Int) ≤ p.row then (cnt rows rows.length : Int)
  else (cnt rows p.row.toNat : Int) + min (max 0 p.col) ((cnt rows (p.row.toNat + 1) : Int) - (cnt rows p.row.toNat : Int))
theorem offset_c (w : World) (F : Nat → Prop) (A : Option Addr) (n c : Nat) (rows : List RowL) (hr : Rd EInt w F A n c (sumsL rows)) (prow pcol : Int) (hn : n ≤ 1000000) (hm : sumLen rows ≤ 1000000) :
    Calls Try.prog 21 [.slice A n c, .agg [.int .i64 prow, .int .i64 pcol].toArray].toArray w (fun e w' => e = .returned (.int .i64 (offR rows ⟨prow, pcol⟩)) ∧ Ext [] w w') := by
  have hl := hr.len
  rw [sumsL_length] at hl
  refine calls (n := 44) Try.func21 rfl Try.ntmps21 rfl ?_
  refine CW.sub (H' := SH w [] []) ?_ (Sub.refl _) (fun x hx => SH.start' _ _ hx)
  refine CW.seq (CW.region ?_)
  refine RW.boxA rfl rfl (fun g3 hg3 hf3 => ?_)
  refine RW.assign rfl rfl ?_
  refine RW.nil (EX.seq (CW.seq (CW.block (CW.seq (CW.region ?_)))))
  refine RW.fieldB fl44x0 rfl rfl ?_
  refine RW.loadB1 sc3 rfl rfl (by first | exact Has.head | exact Has.tail Has.head | exact Has.tail (Has.tail Has.head) | exact Has.tail (Has.tail (Has.tail Has.head)) | exact Has.tail (Has.tail (Has.tail (Has.tail Has.head))) | exact Has.tail (Has.tail (Has.tail (Has.tail (Has.tail Has.head)))) | exact Has.tail (Has.tail (Has.tail (Has.tail (Has.tail (Has.tail Has.head)))))) rfl ?_
  refine RW.lss rfl rfl rfl ?_
  refine RW.move rfl rfl ?_
  -- mq: guard slot 10
  refine RW.casesB 10 rfl (fun h1 => ?_) (fun h1 => ?_)
  · skip
    have h1p := of_decide_eq_true h1
    refine RW.guardF rfl rfl rfl h1 ?_
    refine RW.guardF rfl rfl rfl h1 ?_
    refine RW.guardF rfl rfl rfl h1 ?_
    refine RW.pickB rfl rfl h1 rfl ?_
    refine RW.assign rfl rfl ?_
    refine RW.nil (EX.seq ?_)
    -- mq: cond
    refine CW.condT rfl (rfl) ?_
    refine CW.seq (CW.region ?_)
    refine RW.assign rfl rfl ?_
    refine RW.nil (EX.seq (CW.ret (EX.bkR (EX.seqR ?_))))
    refine EX.fin1 Try.results21 rfl (fun wz hw => ?_)
    -- mq: done
    exact ⟨by rw [offR, if_pos (show prow < 0 from h1p)], hw.ext⟩
  · skip
    have h1p := of_decide_eq_false h1
    refine RW.guardT rfl rfl h1 ?_
    refine RW.move rfl rfl ?_
    refine RW.guardT rfl rfl h1 ?_
    refine RW.lenSl Try.underlying54 rfl rfl ?_
    refine RW.guardT rfl rfl h1 ?_
    refine RW.eqlI rfl rfl rfl ?_
    refine RW.pickC rfl rfl h1 rfl ?_
    refine RW.assign rfl rfl ?_
    refine RW.nil (EX.seq ?_)
    -- mq: cond
    first | refine CW.condD rfl (fun h2 => ?_) (fun h2 => ?_) | refine CW.cond rfl (fun h2 => ?_) (fun h2 => ?_)
    · skip
      refine CW.seq (CW.region ?_)
      refine RW.assign rfl rfl ?_
      refine RW.nil (EX.seq (CW.ret (EX.bkR (EX.seqR ?_))))
      refine EX.fin1 Try.results21 rfl (fun wz hw => ?_)
      -- mq: done
      have hn0 : n = 0 := by omega
      refine ⟨?_, hw.ext⟩
      rw [offR, if_neg (show ¬ prow < 0 from h1p), if_pos (show (rows.length : Int) ≤ prow by omega), hl, hn0]
      rfl
    · skip
      refine CW.seq (CW.region ?_)
      refine RW.fieldB fl44x0 rfl rfl ?_
      refine RW.loadB1 sc3 rfl rfl (by first | exact Has.head | exact Has.tail Has.head | exact Has.tail (Has.tail Has.head) | exact Has.tail (Has.tail (Has.tail Has.head)) | exact Has.tail (Has.tail (Has.tail (Has.tail Has.head))) | exact Has.tail (Has.tail (Has.tail (Has.tail (Has.tail Has.head)))) | exact Has.tail (Has.tail (Has.tail (Has.tail (Has.tail (Has.tail Has.head)))))) rfl ?_
      refine RW.move rfl rfl ?_
      refine RW.lenSl Try.underlying54 rfl rfl ?_
      refine RW.geq rfl rfl rfl ?_
      refine RW.assign rfl rfl ?_
      refine RW.nil (EX.seq ?_)
      -- mq: cond
      first | refine CW.condD rfl (fun h3 => ?_) (fun h3 => ?_) | refine CW.cond rfl (fun h3 => ?_) (fun h3 => ?_)
      · skip
        obtain ⟨ad, hA, _, hcell⟩ := hr.at_ (sumsL_get (rows := rows) (k := n - 1) (by omega))
        refine CW.seq (CW.region ?_)
        refine RW.move rfl rfl ?_
        refine RW.move rfl rfl ?_
        refine RW.lenSl Try.underlying54 rfl rfl ?_
        refine RW.sub_ rfl rfl rfl (wrap64 (by omega) (by omega)) ?_
        refine RW.ixAddr (q := n - 1) sl54 rfl rfl rfl (by first | rfl | assumption) (by omega) (by omega) ?_
        refine RW.load1 sc3 rfl rfl (fun w' hw' => hw'.base_cell (hcell 0 _ rfl) (by simp)) ?_
        refine RW.assign rfl rfl ?_
        refine RW.nil (EX.seq (CW.ret (EX.bkR (EX.seqR ?_))))
        refine EX.fin1 Try.results21 rfl (fun wz hw => ?_)
        -- mq: done
        refine ⟨?_, hw.ext⟩
        rw [offR, if_neg (show ¬ prow < 0 from h1p), if_pos (show (rows.length : Int) ≤ prow by omega), hl, show n - 1 + 1 = n by omega]
      · skip
        obtain ⟨k, rfl⟩ : ∃ k : Nat, prow = k := ⟨prow.toNat, by omega⟩
        obtain ⟨ad, hA, _, hcell⟩ := hr.at_ (sumsL_get (rows := rows) (k := k) (by omega))
        have hc1 := cnt_le rows k
        have hc2 := cnt_le rows (k + 1)
        have hc3 := cnt_mono (rows := rows) (j := k) (k := k + 1) (by omega)
        refine CW.skip (EX.bkN (EX.seq (CW.seq (CW.region ?_))))
        refine RW.move rfl rfl ?_
        refine RW.fieldB fl44x0 rfl rfl ?_
        refine RW.loadB1 sc3 rfl rfl (by first | exact Has.head | exact Has.tail Has.head | exact Has.tail (Has.tail Has.head) | exact Has.tail (Has.tail (Has.tail Has.head)) | exact Has.tail (Has.tail (Has.tail (Has.tail Has.head))) | exact Has.tail (Has.tail (Has.tail (Has.tail (Has.tail Has.head)))) | exact Has.tail (Has.tail (Has.tail (Has.tail (Has.tail (Has.tail Has.head)))))) rfl ?_
        -- mq: op 3: ('Op.call', ('Call.mk', ('Callee.value', ('Operand.func', '38')), ('arr', ('Operand.tmp', '27'), ('Operand.tmp', '29')), ('arr', '54', '3'))) -> slot 30 ("flow.go:120")
        refine RW.call rfl ca38 rfl (fun w' hw' => ahead_c w' F A n c rows (hr.ext hw'.ext (by simp)) k (by omega) hn) ?_
        refine RW.assign rfl rfl ?_
        refine RW.nil (EX.seq (CW.seq ?_))
        -- mq: region
        refine CW.drawq mixed (by kernel_rfl) (fun _ hw => hw.drew) ?_
        refine DRq.cons rfl (RW.move rfl rfl RW.jn) ?_
        refine DRq.cons rfl (RW.fieldB fl44x1 rfl rfl RW.jn) ?_
        refine DRq.cons rfl (RW.loadB1 sc3 rfl rfl (by first | exact Has.head | exact Has.tail Has.head | exact Has.tail (Has.tail Has.head) | exact Has.tail (Has.tail (Has.tail Has.head)) | exact Has.tail (Has.tail (Has.tail (Has.tail Has.head))) | exact Has.tail (Has.tail (Has.tail (Has.tail (Has.tail Has.head)))) | exact Has.tail (Has.tail (Has.tail (Has.tail (Has.tail (Has.tail Has.head)))))) rfl RW.jn) ?_
        refine DRq.cons rfl (RW.max2 rfl rfl rfl RW.jn) ?_
        refine DRq.cons rfl (RW.move rfl rfl RW.jn) ?_
        refine DRq.cons rfl (RW.fieldB fl44x0 rfl rfl RW.jn) ?_
        refine DRq.cons rfl (RW.loadB1 sc3 rfl rfl (by first | exact Has.head | exact Has.tail Has.head | exact Has.tail (Has.tail Has.head) | exact Has.tail (Has.tail (Has.tail Has.head)) | exact Has.tail (Has.tail (Has.tail (Has.tail Has.head))) | exact Has.tail (Has.tail (Has.tail (Has.tail (Has.tail Has.head)))) | exact Has.tail (Has.tail (Has.tail (Has.tail (Has.tail (Has.tail Has.head)))))) rfl RW.jn) ?_
        refine DRq.cons rfl (RW.ixAddr (q := k) sl54 rfl rfl rfl (by first | rfl | assumption) (by omega) (by omega) RW.jn) ?_
        refine DRq.cons rfl (RW.load1 sc3 rfl rfl (fun w' hw' => hw'.base_cell (hcell 0 _ rfl) (by simp)) RW.jn) ?_
        refine DRq.cons rfl (RW.move rfl rfl RW.jn) ?_
        refine DRq.cons rfl (RW.sub_ rfl rfl rfl (wrap64 (by omega) (by omega)) RW.jn) ?_
        refine DRq.cons rfl (RW.min2 rfl rfl rfl RW.jn) ?_
        refine DRq.cons rfl (RW.add rfl rfl rfl (wrap64 (by omega) (by omega)) RW.jn) ?_
        refine DRq.cons rfl (RW.assign rfl rfl RW.jn) ?_
        refine DRq.nil (EX.seq (CW.ret ?_))
        refine EX.fin1 Try.results21 rfl (fun wz hw => ?_)
        -- mq: done
        refine ⟨?_, hw.ext⟩
        rw [offR, if_neg (show ¬ (k : Int) < 0 from h1p), if_neg (show ¬ (rows.length : Int) ≤ (k : Int) by omega)]
        rfl
end Go.Proofs.Ytjmmikdbhhomiaa.Mq

namespace Go.Proofs.Ytjmmikdbhhomiaa.Mq
open Go Go.RowKit Go.Proofs

theorem RdRows.cut {w : World} {F : Nat → Prop} {A : Option Addr} {n c : Nat} {rows : List RowL} (h : RdRows w F A n c rows) {p q : Nat} (h1 : p ≤ q) (h2 : q ≤ n) :
    RdRows w F (if c = p then A else A.map (·.add (p * 2))) (q - p) (c - p) ((rows.take q).drop p) := by
  obtain ⟨rs, g1, g2, g3⟩ := h.prf
  refine ⟨(rs.take q).drop p, g1.cut h1 h2, ?_, fun k r row hk hr => ?_⟩
  · rw [List.map_drop, List.map_take, g2, List.map_drop, List.map_take]
  · rw [List.getElem?_drop, List.getElem?_take] at hk hr
    split at hk
    · rename_i hlt
      rw [if_pos hlt] at hr
      exact g3 _ r row hk hr
    · cases hk
theorem cellsOf_app (a b : List RowL) : cellsOf (a ++ b) = cellsOf a ++ cellsOf b := by simp [cellsOf]
theorem sumLen_app (a b : List RowL) : sumLen (a ++ b) = sumLen a + sumLen b := by simp [sumLen]
theorem sumLen_drop_le (rows : List RowL) (k : Nat) : sumLen (rows.drop k) ≤ sumLen rows := by
  have h := List.take_append_drop k rows
  have : sumLen rows = sumLen (rows.take k) + sumLen (rows.drop k) := by rw [← sumLen_app, h]
  omega
theorem cnt_cut (rows : List RowL) (p q : Nat) (h : p ≤ q) : (cellsOf ((rows.take q).drop p)).length = cnt rows q - cnt rows p := by
  have h1 := List.take_append_drop p (rows.take q)
  rw [List.take_take, Nat.min_eq_left h] at h1
  have h2 := congrArg (fun l => (cellsOf l).length) h1
  simp only [cellsOf_app, List.length_append] at h2
  unfold cnt
  omega
theorem cnt_all (rows : List RowL) : cnt rows rows.length = (cellsOf rows).length := by rw [cnt, List.take_length]
end Go.Proofs.Ytjmmikdbhhomiaa.Mq

namespace Go.Proofs.Ytjmmikdbhhomiaa.Mq
open Go Go.RowKit Go.Proofs

section
variable {P : Program} {n : Nat} {ops : Array Oper} {Q : Post} {rest : List Oper} {l : Fr} {H : World → Prop} {d : Nat} {ty : TypeId} {pos : String} {af : Array Edge}
theorem RW.shr_ {xt yt : TypeId} {x y : Operand} {k k2 : IntKind} {a b r : Int} (hd : Nat.blt d n = true) (hx : ev l x = some (.int k a)) (hy : ev l y = some (.int k2 b)) (h0 : 0 ≤ b) (hr : a / 2 ^ min b.toNat k.bits = r)
    (h : RW P n ops Q rest ((d, .int k r) :: l) H) : RW P n ops Q (⟨some d, .binOp .shr xt x y yt, ty, pos, af, none⟩ :: rest) l H :=
  RW.val _ hd (fun ρ w hρ => by simp [execOp, hρ x _ hx, hρ y _ hy, eqGuard, binOp, shift_shr_any k k2 a b h0, hr]) h
end
theorem search_c (w : World) (n K : Nat) (f : FuncId) (cap : List Value) (p : Nat → Bool) (hn : n ≤ 1000000) (hf : CaT Try.prog f)
    (hc : ∀ w', Ext [] w w' → ∀ i : Nat, i < n → Calls Try.prog f (([] : List Value) ++ [Value.int .i64 (i : Int)] ++ cap).toArray w' (fun e w'' => e = .returned (.bool (p i)) ∧ Ext [] w' w''))
    (hp : ∀ i j, i ≤ j → j < n → p i = true → p j = true) (hK : K ≤ n) (h1 : ∀ j, j < K → p j = false) (h2 : K < n → p K = true) :
    Calls Try.prog 36 [.int .i64 (n : Int), .func (.func f) [].toArray cap.toArray].toArray w (fun e w' => e = .returned (.int .i64 (K : Int)) ∧ Ext [] w w') := by
  refine calls (n := 26) Try.func36 rfl Try.ntmps36 rfl ?_
  refine CW.sub (H' := SH w [] []) ?_ (Sub.refl _) (fun x hx => SH.start' _ _ hx)
  refine CW.seq (CW.region ?_)
  refine RW.assign rfl rfl ?_
  refine RW.nil (EX.seq (CW.seq (CW.region ?_)))
  refine RW.move rfl rfl ?_
  refine RW.assign rfl rfl ?_
  refine RW.assign rfl rfl ?_
  refine RW.nil (EX.seq (CW.seq (CW.block ?_)))
  -- mq: loop
  refine CW.loop (ι := Nat × Nat) (fun i => [(1, .func (.func f) [].toArray cap.toArray), (5, .int .i64 (i.1 : Int)), (6, .int .i64 (i.2 : Int))]) (fun _ => SH w [] []) (fun i => i.1 ≤ i.2 ∧ i.2 ≤ n ∧ (∀ t, t < i.1 → p t = false) ∧ (∀ t, i.2 ≤ t → t < n → p t = true)) (fun i => i.2 - i.1) ?_ ?_
  · exact fun w hw => ⟨(0, n), ⟨Nat.zero_le _, Nat.le_refl _, by simp, fun t h1 h2 => by omega⟩, (by repeat (first | exact Sub.nil | refine Sub.cons (by rfl) ?_)), hw⟩
  · rintro ⟨i, j⟩ ⟨hij, hjn, hlo, hhi⟩
    dsimp only at hij hjn hlo hhi ⊢
    refine CW.seq (CW.seq (CW.region ?_))
    refine RW.move rfl rfl ?_
    refine RW.move rfl rfl ?_
    refine RW.lss rfl rfl rfl ?_
    refine RW.nil (EX.seq ?_)
    -- mq: cond
    first | refine CW.condD rfl (fun hlt => ?_) (fun hlt => ?_) | refine CW.cond rfl (fun hlt => ?_) (fun hlt => ?_)
    · skip
      refine CW.skip (EX.seq (CW.block (CW.seq (CW.region ?_))))
      refine RW.move rfl rfl ?_
      refine RW.move rfl rfl ?_
      refine RW.add rfl rfl rfl (wrap64 (by omega) (by omega)) ?_
      refine RW.convI rfl rfl Try.underlying3 Try.underlying89 (r := (i : Int) + (j : Int)) (by simp [IntKind.wrap, IntKind.bits, IntKind.signed]; omega) ?_
      refine RW.shr_ rfl rfl rfl (by decide) (r := (((i + j) / 2 : Nat) : Int)) (by rw [show min (1 : Int).toNat IntKind.u64.bits = 1 from rfl]; omega) ?_
      refine RW.convI rfl rfl Try.underlying89 Try.underlying3 (wrap64 (by omega) (by omega)) ?_
      refine RW.assign rfl rfl ?_
      refine RW.nil (EX.seq (CW.seq ?_))
      -- mq: region
      generalize hm : (i + j) / 2 = m
      refine CW.region ?_
      refine RW.move rfl rfl ?_
      refine RW.move rfl rfl ?_
      -- mq: op 2: ('Op.call', ('Call.mk', ('Callee.value', ('Operand.tmp', '18')), ('arr', ('Operand.tmp', '19')), ('arr', '3'))) -> slot 20 ("search.go:65")
      refine RW.callV rfl rfl hf rfl (fun w' hw' => hc w' hw'.ext m (by omega)) ?_
      refine RW.not_ rfl rfl ?_
      refine RW.nil (EX.seq ?_)
      -- mq: cond
      first | refine CW.condD rfl (fun hpm => ?_) (fun hpm => ?_) | refine CW.cond rfl (fun hpm => ?_) (fun hpm => ?_)
      · skip
        have hpm : p m = false := by simpa using hpm
        refine CW.region ?_
        refine RW.move rfl rfl ?_
        refine RW.add rfl rfl rfl (wrap64 (by omega) (by omega)) ?_
        refine RW.assign rfl rfl ?_
        refine RW.nil (EX.bkN ?_)
        -- mq: loopend
        refine EX.lpN (m + 1, j) ⟨by omega, hjn, fun t ht => ?_, hhi⟩ (by simp; omega) (by repeat (first | exact Sub.nil | refine Sub.cons (by rfl) ?_)) (fun _ h => h)
        cases hpt : p t with
        | false => rfl
        | true => rw [hp t m (by omega) (by omega) hpt] at hpm; cases hpm
      · skip
        have hpm : p m = true := by simpa using hpm
        refine CW.region ?_
        refine RW.move rfl rfl ?_
        refine RW.assign rfl rfl ?_
        refine RW.nil (EX.bkN ?_)
        -- mq: loopend
        exact EX.lpN (i, m) ⟨by omega, by omega, hlo, fun t h1 h2 => hp m t h1 h2 hpm⟩ (by simp; omega) (by repeat (first | exact Sub.nil | refine Sub.cons (by rfl) ?_)) (fun _ h => h)
    · skip
      refine CW.exit (EX.seqE (EX.lpE (EX.bkE (EX.seq (CW.seq (CW.region ?_))))))
      refine RW.move rfl rfl ?_
      refine RW.assign rfl rfl ?_
      refine RW.nil (EX.seq (CW.ret ?_))
      refine EX.fin1 Try.results36 rfl (fun wz hw => ?_)
      -- mq: done
      have hie : i = j := by omega
      subst hie
      have : K = i := by
        rcases Nat.lt_trichotomy K i with h | h | h
        · have := hlo K h
          rw [h2 (by omega)] at this
          cases this
        · exact h
        · have := h1 i h
          rw [hhi i (Nat.le_refl _) (by omega)] at this
          cases this
      exact ⟨by rw [this], hw.ext⟩
theorem clos_c (w : World) (F : Nat → Prop) (A : Option Addr) (n c : Nat) (rows : List RowL) (hr : Rd EInt w F A n c (sumsL rows)) (g2 g3 : Nat) (off : Int) (h2 : w.cell? ⟨g2, 0, none⟩ = some (.slice A n c)) (h3 : w.cell? ⟨g3, 0, none⟩ = some (.int .i64 off)) (i : Nat) (hi : i < n) :
    Calls Try.prog 37 (([] : List Value) ++ [Value.int .i64 (i : Int)] ++ [Value.pointer (some ⟨g2, 0, none⟩), Value.pointer (some ⟨g3, 0, none⟩)]).toArray w (fun e w'' => e = .returned (.bool (decide (off < (cnt rows (i + 1) : Int)))) ∧ Ext [] w w'') := by
  have hl := hr.len
  rw [sumsL_length] at hl
  obtain ⟨ad, hA, _, hcell⟩ := hr.at_ (sumsL_get (rows := rows) (k := i) (by omega))
  refine calls (n := 11) Try.func37 rfl Try.ntmps37 rfl ?_
  refine CW.sub (H' := SH w [] []) ?_ (Sub.refl _) (fun x hx => SH.start' _ _ hx)
  refine CW.seq (CW.region ?_)
  refine RW.assign rfl rfl ?_
  refine RW.nil (EX.seq (CW.seq ?_))
  -- mq: region
  refine CW.drawq mixed (by kernel_rfl) (fun _ hw => hw.drew) ?_
  refine DRq.cons rfl (RW.load1 sc54 rfl rfl (fun w' hw' => hw'.base_cell h2 (by simp)) RW.jn) ?_
  refine DRq.cons rfl (RW.move rfl rfl RW.jn) ?_
  refine DRq.cons rfl (RW.ixAddr (q := i) sl54 rfl rfl rfl (by first | rfl | assumption) (by omega) (by omega) RW.jn) ?_
  refine DRq.cons rfl (RW.load1 sc3 rfl rfl (fun w' hw' => hw'.base_cell (hcell 0 _ rfl) (by simp)) RW.jn) ?_
  refine DRq.cons rfl (RW.load1 sc3 rfl rfl (fun w' hw' => hw'.base_cell h3 (by simp)) RW.jn) ?_
  refine DRq.cons rfl (RW.gtr rfl rfl rfl RW.jn) ?_
  refine DRq.cons rfl (RW.assign rfl rfl RW.jn) ?_
  refine DRq.nil (EX.seq (CW.ret ?_))
  refine EX.fin1 Try.results37 rfl (fun wz hw => ?_)
  -- mq: done
  exact ⟨rfl, hw.ext⟩
/-- the first row beyond -/
def IsK (rows : List RowL) (off : Int) (k : Nat) : Prop := k ≤ rows.length ∧ (∀ j, j < k → (cnt rows (j + 1) : Int) ≤ off) ∧ (k < rows.length → off < (cnt rows (k + 1) : Int))
theorem isK_ex (rows : List RowL) (off : Int) : ∃ k, IsK rows off k := by
  have : ∀ m, m ≤ rows.length → ∃ k, k ≤ m ∧ (∀ j, j < k → (cnt rows (j + 1) : Int) ≤ off) ∧ (k < m → off < (cnt rows (k + 1) : Int)) := by
    intro m
    induction m with
    | zero => exact fun _ => ⟨0, Nat.le_refl _, by simp, by simp⟩
    | succ m ih =>
      intro hm
      obtain ⟨k, h1, h2, h3⟩ := ih (by omega)
      by_cases hk : k < m
      · exact ⟨k, by omega, h2, fun _ => h3 hk⟩
      · have hk : k = m := by omega
        subst hk
        by_cases ho : off < (cnt rows (k + 1) : Int)
        · exact ⟨k, by omega, h2, fun _ => ho⟩
        · refine ⟨k + 1, Nat.le_refl _, fun j hj => ?_, fun h => by omega⟩
          by_cases hjk : j = k
          · subst hjk; omega
          · exact h2 j (by omega)
  exact this rows.length (Nat.le_refl _)
noncomputable def findK (rows : List RowL) (off : Int) : Nat := Classical.choose (isK_ex rows off)
theorem findK_is (rows : List RowL) (off : Int) : IsK rows off (findK rows off) := Classical.choose_spec (isK_ex rows off)
theorem isK_eq {rows : List RowL} {off : Int} {k : Nat} (h : IsK rows off k) : k = findK rows off := by
  obtain ⟨a1, a2, a3⟩ := h
  obtain ⟨b1, b2, b3⟩ := findK_is rows off
  rcases Nat.lt_trichotomy k (findK rows off) with h | h | h
  · have := b2 k h; have := a3 (by omega); omega
  · exact h
  · have := a2 _ h; have := b3 (by omega); omega
noncomputable def placeR (rows : List RowL) (off : Int) : PosV :=
  if rows.length = 0 then ⟨0, 0⟩ else if findK rows (max 0 off) = rows.length then ⟨((rows.length - 1 : Nat) : Int), min (max 0 off) (cnt rows rows.length : Int) - (cnt rows (rows.length - 1) : Int)⟩
  else ⟨(findK rows (max 0 off) : Int), max 0 off - (cnt rows (findK rows (max 0 off)) : Int)⟩
theorem place_c (w : World) (F : Nat → Prop) (A : Option Addr) (n c : Nat) (rows : List RowL) (hr : Rd EInt w F A n c (sumsL rows)) (off : Int) (ho : -9223372036854775808 ≤ off ∧ off ≤ 9223372036854775807) (hn : n ≤ 1000000) (hm : sumLen rows ≤ 1000000) :
    Calls Try.prog 20 [.slice A n c, .int .i64 off].toArray w (fun e w' => e = .returned (.agg (placeR rows off).enc.toArray) ∧ Ext [] w w') := by
  have hl := hr.len
  rw [sumsL_length] at hl
  refine calls (n := 35) Try.func20 rfl Try.ntmps20 rfl ?_
  refine CW.sub (H' := SH w [] []) ?_ (Sub.refl _) (fun x hx => SH.start' _ _ hx)
  refine CW.seq (CW.region ?_)
  refine RW.box1 rfl rfl rfl (fun g2 hg2 hf2 => ?_)
  refine RW.box1 rfl rfl rfl (fun g3 hg3 hf3 => ?_)
  refine RW.allocA ag44 rfl (fun g4 hg4 hf4 => ?_)
  refine RW.nil (EX.seq (CW.seq (CW.seq (CW.region ?_))))
  refine RW.loadB1 sc54 rfl rfl (by first | exact Has.head | exact Has.tail Has.head | exact Has.tail (Has.tail Has.head) | exact Has.tail (Has.tail (Has.tail Has.head)) | exact Has.tail (Has.tail (Has.tail (Has.tail Has.head))) | exact Has.tail (Has.tail (Has.tail (Has.tail (Has.tail Has.head)))) | exact Has.tail (Has.tail (Has.tail (Has.tail (Has.tail (Has.tail Has.head)))))) rfl ?_
  refine RW.lenSl Try.underlying54 rfl rfl ?_
  refine RW.eqlI rfl rfl rfl ?_
  refine RW.nil (EX.seq ?_)
  -- mq: cond
  first | refine CW.condD rfl (fun h0 => ?_) (fun h0 => ?_) | refine CW.cond rfl (fun h0 => ?_) (fun h0 => ?_)
  · skip
    refine CW.seq (CW.region ?_)
    refine RW.buildS bu44 rfl rfl rfl ?_
    refine RW.storeA ag44 rfl rfl (by first | exact Upd.head | exact Upd.tail Upd.head | exact Upd.tail (Upd.tail Upd.head) | exact Upd.tail (Upd.tail (Upd.tail Upd.head)) | exact Upd.tail (Upd.tail (Upd.tail (Upd.tail Upd.head))) | exact Upd.tail (Upd.tail (Upd.tail (Upd.tail (Upd.tail Upd.head)))) | exact Upd.tail (Upd.tail (Upd.tail (Upd.tail (Upd.tail (Upd.tail Upd.head)))))) (by first | rfl | exact Enc.len _ _) (by repeat (first | exact Ones.nil | exact Enc.ones _ _ | refine Ones.cons rfl ?_)) (by first | exact Nat.le_of_ble_eq_true rfl | (simp only [Enc.len]; decide)) ?_
    refine RW.nil (EX.seq (CW.ret (EX.seqR ?_)))
    refine EX.fin1' Try.results20 (RV.cellA ag44 rfl (by first | exact Has.head | exact Has.tail Has.head | exact Has.tail (Has.tail Has.head) | exact Has.tail (Has.tail (Has.tail Has.head)) | exact Has.tail (Has.tail (Has.tail (Has.tail Has.head))) | exact Has.tail (Has.tail (Has.tail (Has.tail (Has.tail Has.head)))) | exact Has.tail (Has.tail (Has.tail (Has.tail (Has.tail (Has.tail Has.head)))))) rfl rfl) (fun wz hw => ?_)
    -- mq: done
    exact ⟨by rw [placeR, if_pos (by omega)]; rfl, hw.ext⟩
  · skip
    refine CW.skip (EX.seq (CW.seq (CW.region ?_)))
    refine RW.loadB1 sc3 rfl rfl (by first | exact Has.head | exact Has.tail Has.head | exact Has.tail (Has.tail Has.head) | exact Has.tail (Has.tail (Has.tail Has.head)) | exact Has.tail (Has.tail (Has.tail (Has.tail Has.head))) | exact Has.tail (Has.tail (Has.tail (Has.tail (Has.tail Has.head)))) | exact Has.tail (Has.tail (Has.tail (Has.tail (Has.tail (Has.tail Has.head)))))) rfl ?_
    refine RW.max2 rfl rfl rfl ?_
    refine RW.store1 sc3 rfl rfl (by first | exact Upd.head | exact Upd.tail Upd.head | exact Upd.tail (Upd.tail Upd.head) | exact Upd.tail (Upd.tail (Upd.tail Upd.head)) | exact Upd.tail (Upd.tail (Upd.tail (Upd.tail Upd.head))) | exact Upd.tail (Upd.tail (Upd.tail (Upd.tail (Upd.tail Upd.head)))) | exact Upd.tail (Upd.tail (Upd.tail (Upd.tail (Upd.tail (Upd.tail Upd.head)))))) rfl (by first | exact Nat.le_of_ble_eq_true rfl | simp) ?_
    refine RW.nil (EX.seq (CW.seq (CW.region ?_)))
    refine RW.loadB1 sc54 rfl rfl (by first | exact Has.head | exact Has.tail Has.head | exact Has.tail (Has.tail Has.head) | exact Has.tail (Has.tail (Has.tail Has.head)) | exact Has.tail (Has.tail (Has.tail (Has.tail Has.head))) | exact Has.tail (Has.tail (Has.tail (Has.tail (Has.tail Has.head)))) | exact Has.tail (Has.tail (Has.tail (Has.tail (Has.tail (Has.tail Has.head)))))) rfl ?_
    refine RW.lenSl Try.underlying54 rfl rfl ?_
    -- mq: op 2: ('Op.makeFunc', ('Fn.func', '37'), ('arr',), ('arr', ('Operand.tmp', '2'), ('Operand.tmp', '3'))) -> slot 14 ("flow.go:130")
    refine RW.makeFunc rfl rfl rfl ?_
    -- mq: op 3: ('Op.call', ('Call.mk', ('Callee.value', ('Operand.func', '36')), ('arr', ('Operand.tmp', '13'), ('Operand.tmp', '14')), ('arr', '3', '50'))) -> slot 15 ("flow.go:130")
    have hkis := findK_is rows (max 0 off)
    generalize hk : findK rows (max 0 off) = k at hkis
    obtain ⟨k1, k2, k3⟩ := hkis
    have hkn : k ≤ n := by omega
    refine RW.call rfl ca36 rfl (fun w' hw' => search_c w' n k 37 [.pointer (some ⟨g2, 0, none⟩), .pointer (some ⟨g3, 0, none⟩)] (fun i => decide (max 0 off < (cnt rows (i + 1) : Int))) hn ca37 (fun w'' he i hi => ?_) (fun i j hij hj hi => ?_) hkn (fun j hj => ?_) (fun hlt => ?_)) ?_
    · have hww := hw'.keep he
      exact clos_c w'' F A n c rows (hr.ext hww.ext (by simp)) g2 g3 (max 0 off) (hww.blk_cell (o := 0) (Has.tail (Has.tail Has.head)) rfl) (hww.blk_cell (o := 0) (Has.tail Has.head) rfl) i hi
    · have := cnt_mono (rows := rows) (j := i + 1) (k := j + 1) (by omega)
      simp only [decide_eq_true_eq] at hi ⊢
      omega
    · have := k2 j hj
      simp only [decide_eq_false_iff_not]
      omega
    · have := k3 (by omega)
      simpa using this
    refine RW.assign rfl rfl ?_
    refine RW.nil (EX.seq (CW.seq (CW.seq (CW.region ?_))))
    refine RW.move rfl rfl ?_
    refine RW.loadB1 sc54 rfl rfl (by first | exact Has.head | exact Has.tail Has.head | exact Has.tail (Has.tail Has.head) | exact Has.tail (Has.tail (Has.tail Has.head)) | exact Has.tail (Has.tail (Has.tail (Has.tail Has.head))) | exact Has.tail (Has.tail (Has.tail (Has.tail (Has.tail Has.head)))) | exact Has.tail (Has.tail (Has.tail (Has.tail (Has.tail (Has.tail Has.head)))))) rfl ?_
    refine RW.lenSl Try.underlying54 rfl rfl ?_
    refine RW.eqlI rfl rfl rfl ?_
    refine RW.nil (EX.seq ?_)
    -- mq: cond
    first | refine CW.condD rfl (fun h5 => ?_) (fun h5 => ?_) | refine CW.cond rfl (fun h5 => ?_) (fun h5 => ?_)
    · skip
      have hkn2 : k = n := by omega
      subst hkn2
      obtain ⟨ad, hA, _, hcell⟩ := hr.at_ (sumsL_get (rows := rows) (k := k - 1) (by omega))
      have hc1 := cnt_le rows (k - 1)
      have hc2 := cnt_le rows k
      refine CW.seq (CW.region ?_)
      refine RW.move rfl rfl ?_
      refine RW.sub_ rfl rfl rfl (wrap64 (by omega) (by omega)) ?_
      refine RW.assign rfl rfl ?_
      refine RW.nil (EX.seq ?_)
      -- mq: draw op 4: ('Op.load', '3', ('Operand.tmp', '25')) -> slot 26 ("flow.go:133")
      refine CW.drawS [true, true, true, true, true, true, false] 0 (SH w [] [blk g4 [.int .i64 0, .int .i64 0] 44, blk g3 [.int .i64 (max 0 off)] 3, blk g2 [.slice A k c] 54]) mixed (by kernel_rfl) (fun _ hw => hw.drew) (fun _ h => by first | exact h | (have h1 := h.rem Rem.head; first | exact h1 | (have h2 := h1.rem Rem.head; first | exact h2 | (have h3 := h2.rem Rem.head; exact h3)))) (by repeat (first | exact NoP.fin | exact NoP.jn | refine NoP.sq ?_ | refine NoP.bk ?_ | refine NoP.lp ?_)) ?_
      refine QuW.cons rfl (fun wq hq => (RW.load1 sc3 rfl rfl (fun w1 e1 => by subst e1; exact (hq.blk_cell (o := 0) (Has.tail Has.head) rfl)) RW.jn)) ?_
      refine QuW.cons rfl (fun wq hq => (RW.load1 sc54 rfl rfl (fun w1 e1 => by subst e1; exact (hq.blk_cell (o := 0) (Has.tail (Has.tail Has.head)) rfl)) RW.jn)) ?_
      refine QuW.cons rfl (fun wq hq => (RW.move rfl rfl RW.jn)) ?_
      refine QuW.cons rfl (fun wq hq => (RW.ixAddr (q := k - 1) sl54 rfl rfl rfl (by first | rfl | assumption) (by omega) (by omega) RW.jn)) ?_
      refine QuW.cons rfl (fun wq hq => (RW.load1 sc3 rfl rfl (fun w1 e1 => by subst e1; exact (hq.base_cell (hcell 0 _ rfl) (by simp))) RW.jn)) ?_
      refine QuW.cons rfl (fun wq hq => (RW.min2 rfl rfl rfl RW.jn)) ?_
      refine QuW.skip ?_
      refine QuW.nil ?_
      refine SpW.hard ?_
      refine RW.store1 sc3 rfl rfl (by first | exact Upd.head | exact Upd.tail Upd.head | exact Upd.tail (Upd.tail Upd.head) | exact Upd.tail (Upd.tail (Upd.tail Upd.head)) | exact Upd.tail (Upd.tail (Upd.tail (Upd.tail Upd.head))) | exact Upd.tail (Upd.tail (Upd.tail (Upd.tail (Upd.tail Upd.head)))) | exact Upd.tail (Upd.tail (Upd.tail (Upd.tail (Upd.tail (Upd.tail Upd.head)))))) rfl (by first | exact Nat.le_of_ble_eq_true rfl | simp) ?_
      refine RW.nil (EX.seq (CW.seq ?_))
      -- mq: draw op 2: ('Op.load', '54', ('Operand.tmp', '2')) -> slot 30 ("flow.go:135")
      rw [show (k : Int) - 1 = ((k - 1 : Nat) : Int) by omega, show k - 1 + 1 = k by omega]
      refine CW.drawS [true, true, true, true, false, false, false, false] 3 (SH w [] [blk g4 [.int .i64 0, .int .i64 0] 44, blk g3 [.int .i64 (min (max 0 off) (cnt rows k : Int))] 3, blk g2 [.slice A k c] 54]) mixed (by kernel_rfl) (fun _ hw => hw.drew) (fun _ h => by first | exact h | (have h1 := h.rem Rem.head; first | exact h1 | (have h2 := h1.rem Rem.head; first | exact h2 | (have h3 := h2.rem Rem.head; exact h3)))) (by repeat (first | exact NoP.fin | exact NoP.jn | refine NoP.sq ?_ | refine NoP.bk ?_ | refine NoP.lp ?_)) ?_
      refine QuW.cons rfl (fun wq hq => (RW.move rfl rfl RW.jn)) ?_
      refine QuW.cons rfl (fun wq hq => (RW.load1 sc3 rfl rfl (fun w1 e1 => by subst e1; exact (hq.blk_cell (o := 0) (Has.tail Has.head) rfl)) RW.jn)) ?_
      refine QuW.cons rfl (fun wq hq => (RW.load1 sc54 rfl rfl (fun w1 e1 => by subst e1; exact (hq.blk_cell (o := 0) (Has.tail (Has.tail Has.head)) rfl)) RW.jn)) ?_
      refine QuW.cons rfl (fun wq hq => (RW.move rfl rfl RW.jn)) ?_
      refine QuW.skip ?_
      refine QuW.skip ?_
      refine QuW.skip ?_
      refine QuW.skip ?_
      refine QuW.nil ?_
      refine SpW.soft ?_
      -- mq: at
      refine RW.call rfl ca38 rfl (fun w' hw' => ahead_c w' F A k c rows (hr.ext hw'.ext (by simp)) (k - 1) (by omega) hn) ?_
      refine RW.sp1 (fun _ h => by first | exact h | (have h1 := h.rem Rem.head; first | exact h1 | (have h2 := h1.rem Rem.head; first | exact h2 | (have h3 := h2.rem Rem.head; exact h3)))) ?_
      refine SpW.soft ?_
      refine RW.sub_ rfl rfl rfl (wrap64 (by omega) (by omega)) ?_
      refine RW.sp1 (fun _ h => by first | exact h | (have h1 := h.rem Rem.head; first | exact h1 | (have h2 := h1.rem Rem.head; first | exact h2 | (have h3 := h2.rem Rem.head; exact h3)))) ?_
      refine SpW.soft ?_
      refine RW.buildS bu44 rfl rfl rfl ?_
      refine RW.sp1 (fun _ h => by first | exact h | (have h1 := h.rem Rem.head; first | exact h1 | (have h2 := h1.rem Rem.head; first | exact h2 | (have h3 := h2.rem Rem.head; exact h3)))) ?_
      refine SpW.hard ?_
      refine RW.storeA ag44 rfl rfl (by first | exact Upd.head | exact Upd.tail Upd.head | exact Upd.tail (Upd.tail Upd.head) | exact Upd.tail (Upd.tail (Upd.tail Upd.head)) | exact Upd.tail (Upd.tail (Upd.tail (Upd.tail Upd.head))) | exact Upd.tail (Upd.tail (Upd.tail (Upd.tail (Upd.tail Upd.head)))) | exact Upd.tail (Upd.tail (Upd.tail (Upd.tail (Upd.tail (Upd.tail Upd.head)))))) (by first | rfl | exact Enc.len _ _) (by repeat (first | exact Ones.nil | exact Enc.ones _ _ | refine Ones.cons rfl ?_)) (by first | exact Nat.le_of_ble_eq_true rfl | (simp only [Enc.len]; decide)) ?_
      refine RW.nil (EX.seq (CW.ret ?_))
      refine EX.fin1' Try.results20 (RV.cellA ag44 rfl (by first | exact Has.head | exact Has.tail Has.head | exact Has.tail (Has.tail Has.head) | exact Has.tail (Has.tail (Has.tail Has.head)) | exact Has.tail (Has.tail (Has.tail (Has.tail Has.head))) | exact Has.tail (Has.tail (Has.tail (Has.tail (Has.tail Has.head)))) | exact Has.tail (Has.tail (Has.tail (Has.tail (Has.tail (Has.tail Has.head)))))) rfl rfl) (fun wz hw => ?_)
      -- mq: done
      refine ⟨?_, hw.ext⟩
      rw [placeR, if_neg (by omega), hk, hl, if_pos rfl]
      rfl
    · skip
      have hc1 := cnt_le rows k
      refine CW.skip (EX.seq (CW.seq ?_))
      -- mq: draw op 4: ('Op.call', ('Call.mk', ('Callee.value', ('Operand.func', '38')), ('arr', ('Operand.tmp', '30'), ('Operand.tmp', '31')), ('arr', '54', '3'))) -> slot 32 ("flow.go:135")
      refine CW.drawS [true, true, true, true, false, false, false, false] 3 (SH w [] [blk g4 [.int .i64 0, .int .i64 0] 44, blk g3 [.int .i64 (max 0 off)] 3, blk g2 [.slice A n c] 54]) mixed (by kernel_rfl) (fun _ hw => hw.drew) (fun _ h => by first | exact h | (have h1 := h.rem Rem.head; first | exact h1 | (have h2 := h1.rem Rem.head; first | exact h2 | (have h3 := h2.rem Rem.head; exact h3)))) (by repeat (first | exact NoP.fin | exact NoP.jn | refine NoP.sq ?_ | refine NoP.bk ?_ | refine NoP.lp ?_)) ?_
      refine QuW.cons rfl (fun wq hq => (RW.move rfl rfl RW.jn)) ?_
      refine QuW.cons rfl (fun wq hq => (RW.load1 sc3 rfl rfl (fun w1 e1 => by subst e1; exact (hq.blk_cell (o := 0) (Has.tail Has.head) rfl)) RW.jn)) ?_
      refine QuW.cons rfl (fun wq hq => (RW.load1 sc54 rfl rfl (fun w1 e1 => by subst e1; exact (hq.blk_cell (o := 0) (Has.tail (Has.tail Has.head)) rfl)) RW.jn)) ?_
      refine QuW.cons rfl (fun wq hq => (RW.move rfl rfl RW.jn)) ?_
      refine QuW.skip ?_
      refine QuW.skip ?_
      refine QuW.skip ?_
      refine QuW.skip ?_
      refine QuW.nil ?_
      refine SpW.soft ?_
      -- mq: at
      refine RW.call rfl ca38 rfl (fun w' hw' => ahead_c w' F A n c rows (hr.ext hw'.ext (by simp)) k (by omega) hn) ?_
      refine RW.sp1 (fun _ h => by first | exact h | (have h1 := h.rem Rem.head; first | exact h1 | (have h2 := h1.rem Rem.head; first | exact h2 | (have h3 := h2.rem Rem.head; exact h3)))) ?_
      refine SpW.soft ?_
      refine RW.sub_ rfl rfl rfl (wrap64 (by omega) (by omega)) ?_
      refine RW.sp1 (fun _ h => by first | exact h | (have h1 := h.rem Rem.head; first | exact h1 | (have h2 := h1.rem Rem.head; first | exact h2 | (have h3 := h2.rem Rem.head; exact h3)))) ?_
      refine SpW.soft ?_
      refine RW.buildS bu44 rfl rfl rfl ?_
      refine RW.sp1 (fun _ h => by first | exact h | (have h1 := h.rem Rem.head; first | exact h1 | (have h2 := h1.rem Rem.head; first | exact h2 | (have h3 := h2.rem Rem.head; exact h3)))) ?_
      refine SpW.hard ?_
      refine RW.storeA ag44 rfl rfl (by first | exact Upd.head | exact Upd.tail Upd.head | exact Upd.tail (Upd.tail Upd.head) | exact Upd.tail (Upd.tail (Upd.tail Upd.head)) | exact Upd.tail (Upd.tail (Upd.tail (Upd.tail Upd.head))) | exact Upd.tail (Upd.tail (Upd.tail (Upd.tail (Upd.tail Upd.head)))) | exact Upd.tail (Upd.tail (Upd.tail (Upd.tail (Upd.tail (Upd.tail Upd.head)))))) (by first | rfl | exact Enc.len _ _) (by repeat (first | exact Ones.nil | exact Enc.ones _ _ | refine Ones.cons rfl ?_)) (by first | exact Nat.le_of_ble_eq_true rfl | (simp only [Enc.len]; decide)) ?_
      refine RW.nil (EX.seq (CW.ret ?_))
      refine EX.fin1' Try.results20 (RV.cellA ag44 rfl (by first | exact Has.head | exact Has.tail Has.head | exact Has.tail (Has.tail Has.head) | exact Has.tail (Has.tail (Has.tail Has.head)) | exact Has.tail (Has.tail (Has.tail (Has.tail Has.head))) | exact Has.tail (Has.tail (Has.tail (Has.tail (Has.tail Has.head)))) | exact Has.tail (Has.tail (Has.tail (Has.tail (Has.tail (Has.tail Has.head)))))) rfl rfl) (fun wz hw => ?_)
      -- mq: done
      refine ⟨?_, hw.ext⟩
      rw [placeR, if_neg (by omega), hk, if_neg (by omega)]
      rfl
end Go.Proofs.Ytjmmikdbhhomiaa.Mq
