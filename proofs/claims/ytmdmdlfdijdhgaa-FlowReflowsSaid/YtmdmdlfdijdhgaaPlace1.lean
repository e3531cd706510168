/- walks: size, sums, ahead, offset, Offset; Count, Offset of the reference -/
import Derived.Test.YtmdmdlfdijdhgaaRef2
import Derived.Test.YtmdmdlfdijdhgaaCallA
namespace Go.Proofs.Ytmdmdlfdijdhgaa.Mq
open Go Go.RowKit Go.Proofs

theorem zeros_all0 {α : Type} (E : Enc α) (a : α) (m : Nat) : zeros (E.enc a) m = E.all (List.replicate m a) := by
  induction m with
  | zero => simp [zeros, Enc.all]
  | succ m ih =>
    have : ∀ (l : List α), E.all (a :: l) = E.enc a ++ E.all l := fun l => by simp [Enc.all]
    rw [List.replicate_succ, this, zeros, ih]
theorem mem_sumLen0 : ∀ {rows : List RowL} {row : RowL}, row ∈ rows → row.1.length ≤ sumLen rows
  | r :: rows, row, h => by
    have hc : sumLen (r :: rows) = r.1.length + sumLen rows := by simp [sumLen]
    rcases List.mem_cons.1 h with rfl | h
    · omega
    · have := mem_sumLen0 h
      omega
def cntR (l : List CellV) : Nat := (l.filter (fun c => decide (c.half ≠ 3))).length
def cnt (rows : List RowL) (k : Nat) : Nat := (cellsOf (rows.take k)).length
theorem cnt_zero (rows : List RowL) : cnt rows 0 = 0 := rfl
theorem cnt_succ {rows : List RowL} {k : Nat} {row : RowL} (h : rows[k]? = some row) : cnt rows (k + 1) = cnt rows k + cntR row.1 := by
  rw [cnt, take_snoc' h, cellsOf_snoc, List.length_append]; rfl
theorem cnt_le (rows : List RowL) (k : Nat) : cnt rows k ≤ sumLen rows := Nat.le_trans (cellsOf_le _) (sumLen_take_le rows k)
theorem cnt_mono {rows : List RowL} {j k : Nat} (h : j ≤ k) : cnt rows j ≤ cnt rows k := by
  have : rows.take k = rows.take j ++ (rows.take k).drop j := by
    conv => lhs; rw [← List.take_append_drop j (rows.take k), List.take_take, Nat.min_eq_left h]
  rw [cnt, cnt, this]
  simp [cellsOf]
theorem cntR_le (l : List CellV) : cntR l ≤ l.length := List.length_filter_le _ _
theorem cntR_snoc {l : List CellV} {k : Nat} {x : CellV} (hx : l[k]? = some x) : cntR (l.take (k + 1)) = if x.half ≠ 3 then cntR (l.take k) + 1 else cntR (l.take k) := by
  unfold cntR
  rw [take_snoc' hx, filter_snoc]
  by_cases h : x.half = 3 <;> simp [h]
theorem size_c (w : World) (F : Nat → Prop) (A : Option Addr) (n c : Nat) (l : List CellV) (b : Bool) (hr : Rd ECell w F A n c l) (hn : n ≤ 1000000) :
    Calls Try.prog 43 [.agg [.slice A n c, .bool b].toArray].toArray w (fun e w' => e = .returned (.int .i64 (cntR l : Int)) ∧ Ext [] w w') := by
  have hl := hr.len
  refine calls (n := 20) Try.func43 rfl Try.ntmps43 rfl ?_
  refine CW.sub (H' := SH w [] []) ?_ (Sub.refl _) (fun x hx => SH.start' _ _ hx)
  refine CW.seq (CW.region ?_)
  refine RW.boxA rfl rfl (fun g1 hg1 hf1 => ?_)
  refine RW.assign rfl rfl ?_
  refine RW.nil (EX.seq (CW.seq (CW.region ?_)))
  refine RW.assign rfl rfl ?_
  refine RW.nil (EX.seq (CW.seq (CW.seq (CW.region ?_))))
  refine RW.fieldB fl45x0 rfl rfl ?_
  refine RW.loadB1 sc22 rfl rfl (by first | exact Has.head | exact Has.tail Has.head | exact Has.tail (Has.tail Has.head) | exact Has.tail (Has.tail (Has.tail Has.head)) | exact Has.tail (Has.tail (Has.tail (Has.tail Has.head))) | exact Has.tail (Has.tail (Has.tail (Has.tail (Has.tail Has.head)))) | exact Has.tail (Has.tail (Has.tail (Has.tail (Has.tail (Has.tail Has.head)))))) rfl ?_
  refine RW.lenSl Try.underlying22 rfl rfl ?_
  refine RW.move rfl rfl ?_
  refine RW.nil (EX.seq (CW.block ?_))
  -- mq: loop
  refine CW.loop (ι := Nat) (fun i => [(3, .int .i64 (cntR (l.take i) : Int)), (7, .slice A n c), (8, .int .i64 (n : Int)), (9, .int .i64 (i : Int))]) (fun _ => SH w [] []) (fun i => i ≤ n) (fun i => n - i) ?_ ?_
  · exact fun w hw => ⟨0, Nat.zero_le _, (by repeat (first | exact Sub.nil | refine Sub.cons (by rfl) ?_)), hw.rem Rem.head⟩
  · rintro j hj
    have hcl := cntR_le (l.take j)
    rw [List.length_take] at hcl
    refine CW.seq (CW.region ?_)
    refine RW.lss rfl rfl rfl ?_
    refine RW.nil (EX.seq (CW.seq ?_))
    -- mq: cond
    first | refine CW.condD rfl (fun hjt => ?_) (fun hjt => ?_) | refine CW.cond rfl (fun hjt => ?_) (fun hjt => ?_)
    · skip
      obtain ⟨x, hx⟩ : ∃ x, l[j]? = some x := ⟨l[j]'(by omega), List.getElem?_eq_getElem _⟩
      obtain ⟨bd, hB, _, hxc⟩ := hr.at_ hx
      have hcs := cntR_snoc hx
      refine CW.skip (EX.seq (CW.seq (CW.block (CW.seq (CW.region ?_)))))
      refine RW.ixAddr sl22 rfl rfl rfl (by first | rfl | assumption) (by rfl) (by omega) ?_
      refine RW.loadA ag34 rfl rfl (rfl) (fun w' hw' j u hj => hw'.base_cell (hxc j u hj) (by simp)) ?_
      refine RW.allocA ag34 rfl (fun g5 hg5 hf5 => ?_)
      refine RW.storeA ag34 rfl rfl (by first | exact Upd.head | exact Upd.tail Upd.head | exact Upd.tail (Upd.tail Upd.head) | exact Upd.tail (Upd.tail (Upd.tail Upd.head)) | exact Upd.tail (Upd.tail (Upd.tail (Upd.tail Upd.head))) | exact Upd.tail (Upd.tail (Upd.tail (Upd.tail (Upd.tail Upd.head)))) | exact Upd.tail (Upd.tail (Upd.tail (Upd.tail (Upd.tail (Upd.tail Upd.head)))))) (by first | rfl | exact Enc.len _ _) (by repeat (first | exact Ones.nil | exact Enc.ones _ _ | refine Ones.cons rfl ?_)) (by first | exact Nat.le_of_ble_eq_true rfl | (simp only [Enc.len]; decide)) ?_
      refine RW.nil (EX.seq (CW.seq (CW.region ?_)))
      refine RW.fieldB fl34x2 rfl rfl ?_
      refine RW.loadB1 sc3 rfl rfl (by first | exact Has.head | exact Has.tail Has.head | exact Has.tail (Has.tail Has.head) | exact Has.tail (Has.tail (Has.tail Has.head)) | exact Has.tail (Has.tail (Has.tail (Has.tail Has.head))) | exact Has.tail (Has.tail (Has.tail (Has.tail (Has.tail Has.head)))) | exact Has.tail (Has.tail (Has.tail (Has.tail (Has.tail (Has.tail Has.head)))))) rfl ?_
      refine RW.neqI rfl rfl rfl ?_
      refine RW.nil (EX.seq ?_)
      -- mq: cond
      first | refine CW.condD rfl (fun h3 => ?_) (fun h3 => ?_) | refine CW.cond rfl (fun h3 => ?_) (fun h3 => ?_)
      · skip
        refine CW.region ?_
        refine RW.move rfl rfl ?_
        refine RW.add rfl rfl rfl (wrap64 (by omega) (by omega)) ?_
        refine RW.assign rfl rfl ?_
        refine RW.nil (EX.bkN (EX.seq (CW.region ?_)))
        refine RW.add rfl rfl rfl (wrap64 (by omega) (by omega)) ?_
        refine RW.move rfl rfl ?_
        refine RW.nil ?_
        -- mq: loopend
        rw [if_pos h3] at hcs
        exact EX.lpN (j + 1) (by omega) (by omega) (Sub.cons (by rw [hcs]; rfl) (by repeat (first | exact Sub.nil | refine Sub.cons (by rfl) ?_))) (fun w' hw' => hw'.rem Rem.head)
      · skip
        refine CW.skip (EX.bkN (EX.seq (CW.region ?_)))
        refine RW.add rfl rfl rfl (wrap64 (by omega) (by omega)) ?_
        refine RW.move rfl rfl ?_
        refine RW.nil ?_
        -- mq: loopend
        rw [if_neg h3] at hcs
        exact EX.lpN (j + 1) (by omega) (by omega) (Sub.cons (by rw [hcs]; rfl) (by repeat (first | exact Sub.nil | refine Sub.cons (by rfl) ?_))) (fun w' hw' => hw'.rem Rem.head)
    · skip
      refine CW.exit (EX.seqE (EX.lpE (EX.bkE (EX.seq (CW.seq (CW.region ?_))))))
      refine RW.move rfl rfl ?_
      refine RW.assign rfl rfl ?_
      refine RW.nil (EX.seq (CW.ret ?_))
      refine EX.fin1 Try.results43 rfl (fun wz hw => ?_)
      -- mq: done
      have hjn : j = n := by omega
      subst hjn
      exact ⟨by rw [List.take_of_length_le (by omega)], hw.ext⟩
/-- up to the end of each row -/
def sumsL (rows : List RowL) : List Int := (List.range rows.length).map (fun k => (cnt rows (k + 1) : Int))
theorem sumsL_length (rows : List RowL) : (sumsL rows).length = rows.length := by simp [sumsL]
theorem sumsL_get {rows : List RowL} {k : Nat} (h : k < rows.length) : (sumsL rows)[k]? = some (cnt rows (k + 1) : Int) := by simp [sumsL, h]
theorem zeros_int (m : Nat) : zeros [.int .i64 0] m = EInt.all (List.replicate m (0 : Int)) := zeros_all0 EInt (0 : Int) m
theorem sums_c (w : World) (F : Nat → Prop) (A : Option Addr) (n c : Nat) (rows : List RowL) (hr : RdRows w F A n c rows) (hn : n ≤ 1000000) (hm : sumLen rows ≤ 1000000) :
    Calls Try.prog 36 [.slice A n c].toArray w (RetSl EInt w (sumsL rows)) := by
  have hl := hr.len
  refine calls (n := 27) Try.func36 rfl Try.ntmps36 rfl ?_
  refine CW.sub (H' := SH w [] []) ?_ (Sub.refl _) (fun x hx => SH.start' _ _ hx)
  refine CW.seq (CW.region ?_)
  refine RW.assign rfl rfl ?_
  refine RW.nil (EX.seq (CW.seq (CW.region ?_)))
  refine RW.move rfl rfl ?_
  refine RW.lenSl Try.underlying24 rfl rfl ?_
  refine RW.make n sl63 rfl rfl rfl rfl (by simp only [maxLen]; omega) (by omega) (fun g hgl hgf => ?_)
  refine RW.assign rfl rfl ?_
  refine RW.nil (EX.seq (CW.seq ?_))
  -- mq: region
  rw [zeros_int]
  refine CW.region ?_
  refine RW.assign rfl rfl ?_
  refine RW.nil (EX.seq (CW.seq (CW.seq (CW.region ?_))))
  refine RW.move rfl rfl ?_
  refine RW.lenSl Try.underlying24 rfl rfl ?_
  refine RW.move rfl rfl ?_
  refine RW.nil (EX.seq (CW.block ?_))
  -- mq: loop
  refine CW.loop (ι := Nat) (fun i => [(3, .slice (some ⟨g, 0, none⟩) n n), (4, .int .i64 (cnt rows i : Int)), (10, .slice A n c), (11, .int .i64 (n : Int)), (12, .int .i64 (i : Int))]) (fun i => SH w [] [own 3 1 (.slice (some ⟨g, 0, none⟩) n n) n (EInt.all ((sumsL rows).take i ++ List.replicate (n - i) 0))]) (fun i => i ≤ n) (fun i => n - i) ?_ ?_
  · exact fun w hw => ⟨0, Nat.zero_le _, (by repeat (first | exact Sub.nil | refine Sub.cons (by rfl) ?_)), by simpa using hw⟩
  · rintro j hj
    refine CW.seq (CW.region ?_)
    refine RW.lss rfl rfl rfl ?_
    refine RW.nil (EX.seq (CW.seq ?_))
    -- mq: cond
    first | refine CW.condD rfl (fun hjt => ?_) (fun hjt => ?_) | refine CW.cond rfl (fun hjt => ?_) (fun hjt => ?_)
    · skip
      obtain ⟨row, hrow⟩ : ∃ row, rows[j]? = some row := ⟨rows[j]'(by omega), List.getElem?_eq_getElem _⟩
      obtain ⟨ad, B, m, d, hA, _, hcell, hrd⟩ := hr.at_ hrow
      have hcs := cnt_succ hrow
      have hcl := cnt_le rows (j + 1)
      have hrm := hrd.len
      have hrl : row.1.length ≤ sumLen rows := mem_sumLen0 (List.mem_of_getElem? hrow)
      have hget := sumsL_get (rows := rows) (k := j) (by omega)
      have htl : ((sumsL rows).take j).length = j := by rw [List.length_take, sumsL_length]; omega
      have hX : ((sumsL rows).take j ++ List.replicate (n - j) (0 : Int))[j]? = some 0 := by
        rw [List.getElem?_append_right (by omega), htl, Nat.sub_self, List.getElem?_replicate, if_pos (by omega)]
      have hset := EInt.all_set (j := 0) (a' := (cnt rows (j + 1) : Int)) (v := .int .i64 (cnt rows (j + 1) : Int)) hX (by decide) rfl
      rw [List.set_append_right _ _ (by omega), htl, Nat.sub_self, show n - j = (n - (j + 1)) + 1 by omega, List.replicate_succ, List.set_cons_zero, show j * EInt.sz + 0 = j by simp [EInt]] at hset
      refine CW.skip (EX.seq (CW.seq (CW.block (CW.seq (CW.region ?_)))))
      refine RW.move rfl rfl ?_
      refine RW.ixAddr sl24 rfl rfl rfl (by first | rfl | assumption) (by rfl) (by omega) ?_
      refine RW.loadA ag45 rfl rfl (rfl) (fun w' hw' j u hj => hw'.base_cell (hcell j u hj) (by simp)) ?_
      refine RW.allocA ag45 rfl (fun g6 hg6 hf6 => ?_)
      refine RW.assign rfl rfl ?_
      refine RW.storeA ag45 rfl rfl (by first | exact Upd.head | exact Upd.tail Upd.head | exact Upd.tail (Upd.tail Upd.head) | exact Upd.tail (Upd.tail (Upd.tail Upd.head)) | exact Upd.tail (Upd.tail (Upd.tail (Upd.tail Upd.head))) | exact Upd.tail (Upd.tail (Upd.tail (Upd.tail (Upd.tail Upd.head)))) | exact Upd.tail (Upd.tail (Upd.tail (Upd.tail (Upd.tail (Upd.tail Upd.head)))))) (by first | rfl | exact Enc.len _ _) (by repeat (first | exact Ones.nil | exact Enc.ones _ _ | refine Ones.cons rfl ?_)) (by first | exact Nat.le_of_ble_eq_true rfl | (simp only [Enc.len]; decide)) ?_
      refine RW.nil (EX.seq (CW.seq ?_))
      -- mq: region
      refine CW.region ?_
      refine RW.move rfl rfl ?_
      refine RW.loadBA ag45 rfl rfl (by first | exact Has.head | exact Has.tail Has.head | exact Has.tail (Has.tail Has.head) | exact Has.tail (Has.tail (Has.tail Has.head)) | exact Has.tail (Has.tail (Has.tail (Has.tail Has.head))) | exact Has.tail (Has.tail (Has.tail (Has.tail (Has.tail Has.head)))) | exact Has.tail (Has.tail (Has.tail (Has.tail (Has.tail (Has.tail Has.head)))))) rfl rfl ?_
      refine RW.call rfl ca43 rfl (fun w' hw' => size_c w' _ B m d row.1 row.2 (hrd.ext hw'.ext (by simp)) (by omega)) ?_
      refine RW.add rfl rfl rfl (wrap64 (by omega) (by omega)) ?_
      refine RW.assign rfl rfl ?_
      refine RW.nil (EX.seq ?_)
      -- mq: region
      rw [show (cnt rows j : Int) + (cntR row.1 : Int) = (cnt rows (j + 1) : Int) by omega]
      refine CW.region ?_
      refine RW.move rfl rfl ?_
      refine RW.move rfl rfl ?_
      refine RW.move rfl rfl ?_
      refine RW.ixAddr (q := j) sl63 rfl rfl rfl (by first | rfl | assumption) (by omega) (by omega) ?_
      refine RW.storeOwn1 (o := j) sc3 rfl rfl (by first | exact Upd.head | exact Upd.tail Upd.head | exact Upd.tail (Upd.tail Upd.head) | exact Upd.tail (Upd.tail (Upd.tail Upd.head)) | exact Upd.tail (Upd.tail (Upd.tail (Upd.tail Upd.head))) | exact Upd.tail (Upd.tail (Upd.tail (Upd.tail (Upd.tail Upd.head)))) | exact Upd.tail (Upd.tail (Upd.tail (Upd.tail (Upd.tail (Upd.tail Upd.head)))))) (by simp [Addr.add_lit]) rfl (by rw [EInt.all_length]; show _ < _ * 1; simp [sumsL_length]; omega) ?_
      refine RW.nil (EX.bkN (EX.seq (CW.region ?_)))
      refine RW.add rfl rfl rfl (wrap64 (by omega) (by omega)) ?_
      refine RW.move rfl rfl ?_
      refine RW.nil ?_
      -- mq: loopend
      refine EX.lpN (j + 1) (by omega) (by omega) (by repeat (first | exact Sub.nil | refine Sub.cons (by rfl) ?_)) (fun w' hw' => ?_)
      have := hw'.rem Rem.head
      rw [show n - j = (n - (j + 1)) + 1 by omega, List.replicate_succ, hset] at this
      rw [take_snoc' hget, List.append_assoc]
      simpa using this
    · skip
      refine CW.exit (EX.seqE (EX.lpE (EX.bkE (EX.seq (CW.seq (CW.region ?_))))))
      refine RW.move rfl rfl ?_
      refine RW.assign rfl rfl ?_
      refine RW.nil (EX.seq (CW.ret ?_))
      refine EX.fin1 Try.results36 rfl (fun wz hw => ?_)
      -- mq: done
      have hjn : j = n := by omega
      subst hjn
      have hown := hw.has Has.head
      rw [Nat.sub_self, List.replicate_zero, List.append_nil, List.take_of_length_le (by rw [sumsL_length]; omega)] at hown
      exact RetSl.of_own hw.ext hown (by rw [sumsL_length]; exact hl) (fun k hk => by simp only [Value.ownBlock, Option.some.injEq] at hk; omega)
theorem ahead_c (w : World) (F : Nat → Prop) (A : Option Addr) (n c : Nat) (rows : List RowL) (hr : Rd EInt w F A n c (sumsL rows)) (k : Nat) (hk : k ≤ n) (hn : n ≤ 1000000) :
    Calls Try.prog 42 [.slice A n c, .int .i64 (k : Int)].toArray w (fun e w' => e = .returned (.int .i64 (cnt rows k : Int)) ∧ Ext [] w w') := by
  have hl := hr.len
  rw [sumsL_length] at hl
  refine calls (n := 12) Try.func42 rfl Try.ntmps42 rfl ?_
  refine CW.sub (H' := SH w [] []) ?_ (Sub.refl _) (fun x hx => SH.start' _ _ hx)
  refine CW.seq (CW.region ?_)
  refine RW.assign rfl rfl ?_
  refine RW.nil (EX.seq (CW.seq (CW.seq (CW.region ?_))))
  refine RW.move rfl rfl ?_
  refine RW.leq rfl rfl rfl ?_
  refine RW.nil (EX.seq ?_)
  -- mq: cond
  first | refine CW.condD rfl (fun h0 => ?_) (fun h0 => ?_) | refine CW.cond rfl (fun h0 => ?_) (fun h0 => ?_)
  · skip
    refine CW.seq (CW.region ?_)
    refine RW.assign rfl rfl ?_
    refine RW.nil (EX.seq (CW.ret (EX.seqR ?_)))
    refine EX.fin1 Try.results42 rfl (fun wz hw => ?_)
    -- mq: done
    have : k = 0 := by omega
    subst this
    exact ⟨rfl, hw.ext⟩
  · skip
    obtain ⟨k, rfl⟩ : ∃ j, k = j + 1 := ⟨k - 1, by omega⟩
    obtain ⟨ad, hA, _, hcell⟩ := hr.at_ (sumsL_get (rows := rows) (k := k) (by omega))
    refine CW.skip (EX.seq (CW.seq (CW.region ?_)))
    refine RW.move rfl rfl ?_
    refine RW.move rfl rfl ?_
    refine RW.sub_ rfl rfl rfl (wrap64 (by omega) (by omega)) ?_
    refine RW.ixAddr (q := k) sl63 rfl rfl rfl (by first | rfl | assumption) (by omega) (by omega) ?_
    refine RW.load1 sc3 rfl rfl (fun w' hw' => hw'.base_cell (hcell 0 _ rfl) (by simp)) ?_
    refine RW.assign rfl rfl ?_
    refine RW.nil (EX.seq (CW.ret ?_))
    refine EX.fin1 Try.results42 rfl (fun wz hw => ?_)
    -- mq: done
    exact ⟨rfl, hw.ext⟩
/-- a place's offset -/
def offR (rows : List RowL) (p : PosV) : Int :=
  if p.row < 0 then 0 else if (rows.length : Int) ≤ p.row then (cnt rows rows.length : Int)
  else (cnt rows p.row.toNat : Int) + min (max 0 p.col) ((cnt rows (p.row.toNat + 1) : Int) - (cnt rows p.row.toNat : Int))
theorem offset_c (w : World) (F : Nat → Prop) (A : Option Addr) (n c : Nat) (rows : List RowL) (hr : Rd EInt w F A n c (sumsL rows)) (prow pcol : Int) (hn : n ≤ 1000000) (hm : sumLen rows ≤ 1000000) :
    Calls Try.prog 35 [.slice A n c, .agg [.int .i64 prow, .int .i64 pcol].toArray].toArray w (fun e w' => e = .returned (.int .i64 (offR rows ⟨prow, pcol⟩)) ∧ Ext [] w w') := by
  have hl := hr.len
  rw [sumsL_length] at hl
  refine calls (n := 44) Try.func35 rfl Try.ntmps35 rfl ?_
  refine CW.sub (H' := SH w [] []) ?_ (Sub.refl _) (fun x hx => SH.start' _ _ hx)
  refine CW.seq (CW.region ?_)
  refine RW.boxA rfl rfl (fun g3 hg3 hf3 => ?_)
  refine RW.assign rfl rfl ?_
  refine RW.nil (EX.seq (CW.seq (CW.block (CW.seq (CW.region ?_)))))
  refine RW.fieldB fl47x0 rfl rfl ?_
  refine RW.loadB1 sc3 rfl rfl (by first | exact Has.head | exact Has.tail Has.head | exact Has.tail (Has.tail Has.head) | exact Has.tail (Has.tail (Has.tail Has.head)) | exact Has.tail (Has.tail (Has.tail (Has.tail Has.head))) | exact Has.tail (Has.tail (Has.tail (Has.tail (Has.tail Has.head)))) | exact Has.tail (Has.tail (Has.tail (Has.tail (Has.tail (Has.tail Has.head)))))) rfl ?_
  refine RW.lss rfl rfl rfl ?_
  refine RW.move rfl rfl ?_
  -- mq: guard slot 10
  refine RW.casesB 10 rfl (fun h1 => ?_) (fun h1 => ?_)
  · skip
    have h1p := of_decide_eq_true h1
    refine RW.guardF rfl rfl rfl h1 ?_
    refine RW.guardF rfl rfl rfl h1 ?_
    refine RW.guardF rfl rfl rfl h1 ?_
    refine RW.pickB rfl rfl h1 rfl ?_
    refine RW.assign rfl rfl ?_
    refine RW.nil (EX.seq ?_)
    -- mq: cond
    refine CW.condT rfl (rfl) ?_
    refine CW.seq (CW.region ?_)
    refine RW.assign rfl rfl ?_
    refine RW.nil (EX.seq (CW.ret (EX.bkR (EX.seqR ?_))))
    refine EX.fin1 Try.results35 rfl (fun wz hw => ?_)
    -- mq: done
    exact ⟨by rw [offR, if_pos (show prow < 0 from h1p)], hw.ext⟩
  · skip
    have h1p := of_decide_eq_false h1
    refine RW.guardT rfl rfl h1 ?_
    refine RW.move rfl rfl ?_
    refine RW.guardT rfl rfl h1 ?_
    refine RW.lenSl Try.underlying63 rfl rfl ?_
    refine RW.guardT rfl rfl h1 ?_
    refine RW.eqlI rfl rfl rfl ?_
    refine RW.pickC rfl rfl h1 rfl ?_
    refine RW.assign rfl rfl ?_
    refine RW.nil (EX.seq ?_)
    -- mq: cond
    first | refine CW.condD rfl (fun h2 => ?_) (fun h2 => ?_) | refine CW.cond rfl (fun h2 => ?_) (fun h2 => ?_)
    · skip
      refine CW.seq (CW.region ?_)
      refine RW.assign rfl rfl ?_
      refine RW.nil (EX.seq (CW.ret (EX.bkR (EX.seqR ?_))))
      refine EX.fin1 Try.results35 rfl (fun wz hw => ?_)
      -- mq: done
      have hn0 : n = 0 := by omega
      refine ⟨?_, hw.ext⟩
      rw [offR, if_neg (show ¬ prow < 0 from h1p), if_pos (show (rows.length : Int) ≤ prow by omega), hl, hn0]
      rfl
    · skip
      refine CW.seq (CW.region ?_)
      refine RW.fieldB fl47x0 rfl rfl ?_
      refine RW.loadB1 sc3 rfl rfl (by first | exact Has.head | exact Has.tail Has.head | exact Has.tail (Has.tail Has.head) | exact Has.tail (Has.tail (Has.tail Has.head)) | exact Has.tail (Has.tail (Has.tail (Has.tail Has.head))) | exact Has.tail (Has.tail (Has.tail (Has.tail (Has.tail Has.head)))) | exact Has.tail (Has.tail (Has.tail (Has.tail (Has.tail (Has.tail Has.head)))))) rfl ?_
      refine RW.move rfl rfl ?_
      refine RW.lenSl Try.underlying63 rfl rfl ?_
      refine RW.geq rfl rfl rfl ?_
      refine RW.assign rfl rfl ?_
      refine RW.nil (EX.seq ?_)
      -- mq: cond
      first | refine CW.condD rfl (fun h3 => ?_) (fun h3 => ?_) | refine CW.cond rfl (fun h3 => ?_) (fun h3 => ?_)
      · skip
        obtain ⟨ad, hA, _, hcell⟩ := hr.at_ (sumsL_get (rows := rows) (k := n - 1) (by omega))
        refine CW.seq (CW.region ?_)
        refine RW.move rfl rfl ?_
        refine RW.move rfl rfl ?_
        refine RW.lenSl Try.underlying63 rfl rfl ?_
        refine RW.sub_ rfl rfl rfl (wrap64 (by omega) (by omega)) ?_
        refine RW.ixAddr (q := n - 1) sl63 rfl rfl rfl (by first | rfl | assumption) (by omega) (by omega) ?_
        refine RW.load1 sc3 rfl rfl (fun w' hw' => hw'.base_cell (hcell 0 _ rfl) (by simp)) ?_
        refine RW.assign rfl rfl ?_
        refine RW.nil (EX.seq (CW.ret (EX.bkR (EX.seqR ?_))))
        refine EX.fin1 Try.results35 rfl (fun wz hw => ?_)
        -- mq: done
        refine ⟨?_, hw.ext⟩
        rw [offR, if_neg (show ¬ prow < 0 from h1p), if_pos (show (rows.length : Int) ≤ prow by omega), hl, show n - 1 + 1 = n by omega]
      · skip
        obtain ⟨k, rfl⟩ : ∃ k : Nat, prow = k := ⟨prow.toNat, by omega⟩
        obtain ⟨ad, hA, _, hcell⟩ := hr.at_ (sumsL_get (rows := rows) (k := k) (by omega))
        have hc1 := cnt_le rows k
        have hc2 := cnt_le rows (k + 1)
        have hc3 := cnt_mono (rows := rows) (j := k) (k := k + 1) (by omega)
        refine CW.skip (EX.bkN (EX.seq (CW.seq (CW.region ?_))))
        refine RW.move rfl rfl ?_
        refine RW.fieldB fl47x0 rfl rfl ?_
        refine RW.loadB1 sc3 rfl rfl (by first | exact Has.head | exact Has.tail Has.head | exact Has.tail (Has.tail Has.head) | exact Has.tail (Has.tail (Has.tail Has.head)) | exact Has.tail (Has.tail (Has.tail (Has.tail Has.head))) | exact Has.tail (Has.tail (Has.tail (Has.tail (Has.tail Has.head)))) | exact Has.tail (Has.tail (Has.tail (Has.tail (Has.tail (Has.tail Has.head)))))) rfl ?_
        -- mq: op 3: ('Op.call', ('Call.mk', ('Callee.value', ('Operand.func', '42')), ('arr', ('Operand.tmp', '27'), ('Operand.tmp', '29')), ('arr', '63', '3'))) -> slot 30 ("flow.go:120")
        refine RW.call rfl ca42 rfl (fun w' hw' => ahead_c w' F A n c rows (hr.ext hw'.ext (by simp)) k (by omega) hn) ?_
        refine RW.assign rfl rfl ?_
        refine RW.nil (EX.seq (CW.seq ?_))
        -- mq: region
        refine CW.drawq mixed (by kernel_rfl) (fun _ hw => hw.drew) ?_
        refine DRq.cons rfl (RW.move rfl rfl RW.jn) ?_
        refine DRq.cons rfl (RW.fieldB fl47x1 rfl rfl RW.jn) ?_
        refine DRq.cons rfl (RW.loadB1 sc3 rfl rfl (by first | exact Has.head | exact Has.tail Has.head | exact Has.tail (Has.tail Has.head) | exact Has.tail (Has.tail (Has.tail Has.head)) | exact Has.tail (Has.tail (Has.tail (Has.tail Has.head))) | exact Has.tail (Has.tail (Has.tail (Has.tail (Has.tail Has.head)))) | exact Has.tail (Has.tail (Has.tail (Has.tail (Has.tail (Has.tail Has.head)))))) rfl RW.jn) ?_
        refine DRq.cons rfl (RW.max2 rfl rfl rfl RW.jn) ?_
        refine DRq.cons rfl (RW.move rfl rfl RW.jn) ?_
        refine DRq.cons rfl (RW.fieldB fl47x0 rfl rfl RW.jn) ?_
        refine DRq.cons rfl (RW.loadB1 sc3 rfl rfl (by first | exact Has.head | exact Has.tail Has.head | exact Has.tail (Has.tail Has.head) | exact Has.tail (Has.tail (Has.tail Has.head)) | exact Has.tail (Has.tail (Has.tail (Has.tail Has.head))) | exact Has.tail (Has.tail (Has.tail (Has.tail (Has.tail Has.head)))) | exact Has.tail (Has.tail (Has.tail (Has.tail (Has.tail (Has.tail Has.head)))))) rfl RW.jn) ?_
        refine DRq.cons rfl (RW.ixAddr (q := k) sl63 rfl rfl rfl (by first | rfl | assumption) (by omega) (by omega) RW.jn) ?_
        refine DRq.cons rfl (RW.load1 sc3 rfl rfl (fun w' hw' => hw'.base_cell (hcell 0 _ rfl) (by simp)) RW.jn) ?_
        refine DRq.cons rfl (RW.move rfl rfl RW.jn) ?_
        refine DRq.cons rfl (RW.sub_ rfl rfl rfl (wrap64 (by omega) (by omega)) RW.jn) ?_
        refine DRq.cons rfl (RW.min2 rfl rfl rfl RW.jn) ?_
        refine DRq.cons rfl (RW.add rfl rfl rfl (wrap64 (by omega) (by omega)) RW.jn) ?_
        refine DRq.cons rfl (RW.assign rfl rfl RW.jn) ?_
        refine DRq.nil (EX.seq (CW.ret ?_))
        refine EX.fin1 Try.results35 rfl (fun wz hw => ?_)
        -- mq: done
        refine ⟨?_, hw.ext⟩
        rw [offR, if_neg (show ¬ (k : Int) < 0 from h1p), if_neg (show ¬ (rows.length : Int) ≤ (k : Int) by omega)]
        rfl
theorem Offset_c (w : World) (F : Nat → Prop) (A : Option Addr) (n c : Nat) (rows : List RowL) (hr : RdRows w F A n c rows) (p : PosV) (hn : n ≤ 1000000) (hm : sumLen rows ≤ 1000000) :
    Calls Try.prog 23 [.slice A n c, .agg p.enc.toArray].toArray w (fun e w' => e = .returned (.int .i64 (offR rows p)) ∧ Ext [] w w') := by
  refine calls (n := 9) Try.func23 rfl Try.ntmps23 rfl ?_
  refine CW.sub (H' := SH w [] []) ?_ (Sub.refl _) (fun x hx => SH.start' _ _ hx)
  refine CW.seq (CW.region ?_)
  refine RW.boxA rfl rfl (fun g3 hg3 hf3 => ?_)
  refine RW.assign rfl rfl ?_
  refine RW.nil (EX.seq (CW.seq ?_))
  -- mq: draw op 1: ('Op.call', ('Call.mk', ('Callee.value', ('Operand.func', '36')), ('arr', ('Operand.tmp', '5')), ('arr', '24'))) -> slot 6 ("flow.go:139")
  refine CW.drawS [true, false, true, false, false] 2 (fun w' => ∀ j u, p.enc[j]? = some u → w'.cell? ((⟨g3, 0, none⟩ : Addr).add j) = some u) mixed (by kernel_rfl) (fun _ hw => hw.drew) (fun w' h j u hj => by rw [Addr.add_lit]; exact h.blk_cell Has.head (by simpa using hj)) (by repeat (first | exact NoP.fin | exact NoP.jn | refine NoP.sq ?_ | refine NoP.bk ?_ | refine NoP.lp ?_)) ?_
  refine QuW.cons rfl (fun wq hq => (RW.move rfl rfl RW.jn)) ?_
  refine QuW.skip ?_
  refine QuW.cons rfl (fun wq hq => (RW.loadA ag47 rfl rfl rfl (fun w1 e1 j u hj => by subst e1; exact hq j u hj) RW.jn)) ?_
  refine QuW.skip ?_
  refine QuW.skip ?_
  refine QuW.nil ?_
  refine SpW.soft ?_
  refine RW.callK rfl ca36 rfl (fun w' hw' => sums_c w' F A n c rows (hr.ext hw'.ext (by simp)) hn hm) (fun w0 w1 A2 n2 c2 hw0 he01 hw1 hlt hrd => ?_)
  have hm2 := hrd.len
  have hl := hr.len
  rw [sumsL_length] at hm2
  refine RW.sp1 (fun w' h j u hj => by rw [Addr.add_lit]; exact h.blk_cell Has.head (by simpa using hj)) ?_
  refine SpW.soft ?_
  refine RW.call rfl ca35 rfl (fun w' hw' => offset_c w' _ A2 n2 c2 rows ((hrd.weak (F' := fun k => k ≠ g3) (fun k hk e => by have := hlt g3 (by simp [feet, blk]); omega)).ext hw'.ext (by simp [feet, blk])) p.row p.col (by omega) hm) ?_
  refine RW.sp1 (fun w' h j u hj => by rw [Addr.add_lit]; exact h.blk_cell Has.head (by simpa using hj)) ?_
  refine SpW.hard ?_
  refine RW.assign rfl rfl ?_
  refine RW.nil (EX.seq (CW.ret ?_))
  refine EX.fin1 Try.results23 rfl (fun wz hw => ?_)
  -- mq: done
  exact ⟨rfl, (hw0.ext.trans0 he01).trans hw.ext (fun x hx hlt2 => by simp [feet, blk] at hx; omega)⟩
end Go.Proofs.Ytmdmdlfdijdhgaa.Mq
