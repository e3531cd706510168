/- text: the walk of TextFlows -/
import Derived.Test.YtjmmikdbhhomiaaTxH
namespace Go.Proofs.Ytjmmikdbhhomiaa.Mq
open Go Go.RowKit Go.Proofs

def IsReflow (out : List RowL) (ps : List PosV) (w : World) (v : Value) (w' : World) : Prop := ∃ A1 n1 c1 A2 n2 c2, v = .tuple #[.slice A1 n1 c1, .slice A2 n2 c2] ∧ RdRows w' (fun k => w.heap.size ≤ k) A1 n1 c1 out ∧ Rd EPos w' (fun k => w.heap.size ≤ k) A2 n2 c2 ps
theorem RetReflow.toA {w w' : World} {out : List RowL} {ps : List PosV} {e : Ending} (h : RetReflow w out ps e w') : RetA (IsReflow out ps w) w e w' := by
  obtain ⟨A1, n1, c1, A2, n2, c2, rfl, h1, h2, h3⟩ := h
  exact ⟨_, rfl, h1, A1, n1, c1, A2, n2, c2, rfl, h2, h3⟩
theorem u16_of {a : Int} (h : (Lit.int .u16 a).wf = true) : ∃ m : Nat, a = m ∧ m < 65536 := by
  have h : 0 ≤ a ∧ a ≤ 65535 := by simpa [Lit.wf, IntKind.min, IntKind.max, IntKind.signed, IntKind.bits] using h
  exact ⟨a.toNat, by omega, by omega⟩
theorem seg_snoc {rows : List RowL} {s k : Nat} {row : RowL} (hs : s ≤ k) (hk : rows[k]? = some row) : (rows.take (k + 1)).drop s = (rows.take k).drop s ++ [row] := by
  have hlt := (List.getElem?_eq_some_iff.1 hk).1
  rw [take_snoc' hk, List.drop_append_of_le_length (by rw [List.length_take]; omega)]
theorem sum_seg (rows : List RowL) (s k : Nat) : sumLen ((rows.take k).drop s) ≤ sumLen rows := sumLen_seg rows ((s : Int), (k : Int))
theorem cutPad_yes {r : List CellV} {y : CellV} (h : r[r.length - 1]? = some y) (h3 : y.half = 3) : cutPad r = (r.take (r.length - 1)).drop 0 := by
  unfold cutPad
  rw [List.getLast?_eq_getElem?, h]
  simp only [Option.map_some, Option.getD_some, h3, if_true, List.drop_zero]
  exact List.dropLast_eq_take
theorem cutPad_no {r : List CellV} {y : CellV} (h : r[r.length - 1]? = some y) (h3 : y.half ≠ 3) : cutPad r = r := by
  unfold cutPad
  rw [List.getLast?_eq_getElem?, h]
  simp only [Option.map_some, Option.getD_some, h3, if_false]
theorem flows_c (w : World) (F : Nat → Prop) (A : Option Addr) (n c : Nat) (rows : List RowL) (hr : RdRows w F A n c rows) (hn0 : n ≤ 140737488351232) (hm0 : ∀ row ∈ rows, row.1.length ≤ 140737488351232) (a : Nat) (ha : a < 65536) :
    Calls Try.prog 3 [.slice A n c, .int .u16 (a : Int)].toArray w (fun e w' => e = .returned (.bool true) ∧ Ext [] w w') := by
  have hl := hr.len
  refine calls (n := 148) Try.func3 rfl Try.ntmps3 rfl ?_
  refine CW.sub (H' := SH w [] []) ?_ (Sub.refl _) (fun x hx => SH.start' _ _ hx)
  refine CW.seq (CW.region ?_)
  refine RW.assign rfl rfl ?_
  refine RW.nil (EX.seq (CW.seq (CW.seq ?_)))
  -- mq: region
  refine CW.region ?_
  refine RW.move rfl rfl ?_
  -- mq: at
  refine RW.callA (R := fun _ v _ => ∃ b, v = .bool b ∧ (b = false → n + sumLen rows ≤ 600 ∧ ∀ row ∈ rows, ∀ x ∈ row.1, x.more.length ≤ 100)) rfl ca4 rfl (fun w' hw' => great_c w' _ A n c rows (hr.ext hw'.ext (by simp)) hn0 hm0) (fun w0 w1 v hw0 he01 hw1 hlt1 hv => ?_)
  obtain ⟨b1, rfl, hgr⟩ := hv
  have hx1 : Ext [] w w1 := hw0.ext.trans0 he01
  refine RW.move rfl rfl ?_
  -- mq: guard slot 14
  refine RW.casesB 14 rfl (fun h1 => ?_) (fun h1 => ?_)
  · skip
    refine RW.guardF rfl rfl rfl h1 ?_
    refine RW.guardF rfl rfl rfl h1 ?_
    refine RW.pickB rfl rfl h1 rfl ?_
    refine RW.nil (EX.seq ?_)
    -- mq: cond
    refine CW.condT rfl (rfl) ?_
    refine CW.seq (CW.region ?_)
    refine RW.call rfl ca5 rfl (fun w' _ => awake_c w') ?_
    refine RW.assign rfl rfl ?_
    refine RW.nil (EX.seq (CW.ret (EX.seqR ?_)))
    refine EX.fin1 Try.results3 rfl (fun wz hw => ?_)
    -- mq: done
    exact ⟨rfl, hx1.trans0 hw.ext⟩
  · skip
    obtain ⟨hsz, hmr⟩ := hgr h1
    refine RW.guardT rfl rfl h1 ?_
    refine RW.call rfl ca5 rfl (fun w' _ => awake_c w') ?_
    refine RW.guardT rfl rfl h1 ?_
    refine RW.not_ rfl rfl ?_
    refine RW.pickC rfl rfl h1 rfl ?_
    refine RW.nil (EX.seq ?_)
    -- mq: cond
    refine CW.condF rfl (rfl) ?_
    subst hl
    refine CW.skip (EX.seq (CW.seq ?_))
    -- mq: region
    refine CW.region ?_
    refine RW.move rfl rfl ?_
    -- mq: at
    refine RW.callR rfl ca6 rfl (fun w' hw' => Lines_c w' _ A rows.length c rows (hr.ext (hx1.trans0 hw'.ext) (by simp)) (by omega)) ?_
    intro w2 w3 A5 n5 c5 hw2 he23 hw3 hrd5
    have hx3 : Ext [] w w3 := (hx1.trans0 hw2.ext).trans0 he23
    have hL5 := hrd5.len
    have hLl := linesL_length rows rows.length
    have hch := linesL_chain rows rows.length
    obtain ⟨L, hLe⟩ : ∃ L, L = linesL rows rows.length := ⟨_, rfl⟩
    rw [← hLe] at hrd5 hL5 hLl hch
    refine RW.assign rfl rfl ?_
    refine RW.nil (EX.seq (CW.seq (CW.seq (CW.region ?_))))
    refine RW.assign rfl rfl ?_
    refine RW.nil (EX.seq (CW.block ?_))
    -- mq: loop
    refine CW.loop (ι := Nat) (fun i => [(6, .int .i64 (i : Int)), (0, .slice A rows.length c), (1, .int .u16 (a : Int)), (5, .slice A5 n5 c5)]) (fun _ => fun w' => Ext [] w3 w') (fun i => i ≤ n5 ∧ ∀ j ln, j < i → L[j]? = some ln → mendL (cellsOf (segOld rows ln)) = cellsOf (segOld rows ln)) (fun i => n5 - i) ?_ ?_
    · exact fun w' hw' => ⟨0, ⟨Nat.zero_le _, fun j _ h => absurd h (Nat.not_lt_zero _)⟩, (by repeat (first | exact Sub.nil | refine Sub.cons (by rfl) ?_)), hw'.ext⟩
    · rintro i ⟨hi, hall⟩
      refine CW.fix (fun w4 hw4 => ?_)
      have hx4 : Ext [] w w4 := hx3.trans0 hw4
      refine CW.seq (CW.seq (CW.region ?_))
      refine RW.move rfl rfl ?_
      refine RW.move rfl rfl ?_
      refine RW.lenSl Try.underlying26 rfl rfl ?_
      refine RW.lss rfl rfl rfl ?_
      refine RW.nil (EX.seq ?_)
      -- mq: cond
      first | refine CW.condD rfl (fun hlt => ?_) (fun hlt => ?_) | refine CW.cond rfl (fun hlt => ?_) (fun hlt => ?_)
      · skip
        obtain ⟨p, hp⟩ : ∃ p, L[i]? = some p := ⟨L[i]'(by omega), List.getElem?_eq_getElem _⟩
        obtain ⟨s, e, rfl, hse, hen⟩ := lines_in L 0 hch p (List.mem_of_getElem? hp)
        obtain ⟨ad, hA5, _, hcl⟩ := (hrd5.ext hw4 (by simp)).at_ hp
        refine CW.skip (EX.seq (CW.seq (CW.block (CW.seq (CW.seq ?_)))))
        -- mq: region
        refine CW.drawU [0, 1, 2, 3, 4, 5, 6, 7, 8, 9, 10, 11, 12, 13, 14, 15, 16, 17, 18, 19, 20, 21, 22, 23, 24, 25, 26, 27, 28] 0 [[]] (SH w4 [] []) mixed (by kernel_rfl) (fun _ hw => hw.drew) (fun _ h => (by first | trivial | exact h | exact h.ch | exact (h.rem Rem.head).ch | exact ((h.rem Rem.head).rem Rem.head).ch | exact (((h.rem Rem.head).rem Rem.head).rem Rem.head).ch)) ?_
        refine QuP.cons rfl (fun wq hq => (RW.move rfl rfl RW.jn)) ?_
        refine QuP.cons rfl (fun wq hq => (RW.move rfl rfl RW.jn)) ?_
        refine QuP.cons rfl (fun wq hq => (RW.ixAddr (q := i) sl26 rfl rfl rfl (by first | rfl | assumption) (by omega) (by omega) RW.jn)) ?_
        refine QuP.cons rfl (fun wq hq => (RW.ixArr (q := 0) Try.underlying28 ar28 rfl rfl rfl (by omega) (by omega) RW.jn)) ?_
        refine QuP.cons rfl (fun wq hq => (RW.load1 sc3 rfl rfl (fun w1 e1 => by subst e1; exact (hq.base_cell (hcl 0 _ rfl) (by simp))) RW.jn)) ?_
        refine QuP.cons rfl (fun wq hq => (RW.lss rfl rfl rfl RW.jn)) ?_
        refine QuP.cons rfl (fun wq hq => (RW.move rfl rfl RW.jn)) ?_
        refine QuP.cons rfl (fun wq hq => RW.guardT rfl rfl ((decide_eq_false (by omega))) (RW.move rfl rfl RW.jn)) ?_
        refine QuP.cons rfl (fun wq hq => RW.guardT rfl rfl ((decide_eq_false (by omega))) (RW.move rfl rfl RW.jn)) ?_
        refine QuP.cons rfl (fun wq hq => RW.guardT rfl rfl ((decide_eq_false (by omega))) (RW.ixAddr (q := i) sl26 rfl rfl rfl (by first | rfl | assumption) (by omega) (by omega) RW.jn)) ?_
        refine QuP.cons rfl (fun wq hq => RW.guardT rfl rfl ((decide_eq_false (by omega))) (RW.ixArr (q := 1) Try.underlying28 ar28 rfl rfl rfl (by omega) (by omega) RW.jn)) ?_
        refine QuP.cons rfl (fun wq hq => RW.guardT rfl rfl ((decide_eq_false (by omega))) (RW.load1 sc3 rfl rfl (fun w1 e1 => by subst e1; exact (hq.base_cell (hcl 1 _ rfl) (by simp))) RW.jn)) ?_
        refine QuP.cons rfl (fun wq hq => RW.guardT rfl rfl ((decide_eq_false (by omega))) (RW.move rfl rfl RW.jn)) ?_
        refine QuP.cons rfl (fun wq hq => RW.guardT rfl rfl ((decide_eq_false (by omega))) (RW.lenSl Try.underlying22 rfl rfl RW.jn)) ?_
        refine QuP.cons rfl (fun wq hq => RW.guardT rfl rfl ((decide_eq_false (by omega))) (RW.gtr rfl rfl rfl RW.jn)) ?_
        refine QuP.cons rfl (fun wq hq => (RW.pickC rfl rfl (decide_eq_false (by omega)) rfl RW.jn)) ?_
        refine QuP.cons rfl (fun wq hq => (RW.move rfl rfl RW.jn)) ?_
        refine QuP.cons rfl (fun wq hq => RW.guardT rfl rfl ((decide_eq_false (by omega))) (RW.move rfl rfl RW.jn)) ?_
        refine QuP.cons rfl (fun wq hq => RW.guardT rfl rfl ((decide_eq_false (by omega))) (RW.move rfl rfl RW.jn)) ?_
        refine QuP.cons rfl (fun wq hq => RW.guardT rfl rfl ((decide_eq_false (by omega))) (RW.ixAddr (q := i) sl26 rfl rfl rfl (by first | rfl | assumption) (by omega) (by omega) RW.jn)) ?_
        refine QuP.cons rfl (fun wq hq => RW.guardT rfl rfl ((decide_eq_false (by omega))) (RW.ixArr (q := 0) Try.underlying28 ar28 rfl rfl rfl (by omega) (by omega) RW.jn)) ?_
        refine QuP.cons rfl (fun wq hq => RW.guardT rfl rfl ((decide_eq_false (by omega))) (RW.load1 sc3 rfl rfl (fun w1 e1 => by subst e1; exact (hq.base_cell (hcl 0 _ rfl) (by simp))) RW.jn)) ?_
        refine QuP.cons rfl (fun wq hq => RW.guardT rfl rfl ((decide_eq_false (by omega))) (RW.move rfl rfl RW.jn)) ?_
        refine QuP.cons rfl (fun wq hq => RW.guardT rfl rfl ((decide_eq_false (by omega))) (RW.move rfl rfl RW.jn)) ?_
        refine QuP.cons rfl (fun wq hq => RW.guardT rfl rfl ((decide_eq_false (by omega))) (RW.ixAddr (q := i) sl26 rfl rfl rfl (by first | rfl | assumption) (by omega) (by omega) RW.jn)) ?_
        refine QuP.cons rfl (fun wq hq => RW.guardT rfl rfl ((decide_eq_false (by omega))) (RW.ixArr (q := 1) Try.underlying28 ar28 rfl rfl rfl (by omega) (by omega) RW.jn)) ?_
        refine QuP.cons rfl (fun wq hq => RW.guardT rfl rfl ((decide_eq_false (by omega))) (RW.load1 sc3 rfl rfl (fun w1 e1 => by subst e1; exact (hq.base_cell (hcl 1 _ rfl) (by simp))) RW.jn)) ?_
        refine QuP.cons rfl (fun wq hq => RW.guardT rfl rfl ((decide_eq_false (by omega))) (RW.gtr rfl rfl rfl RW.jn)) ?_
        refine QuP.cons rfl (fun wq hq => (RW.pickC rfl rfl (decide_eq_false (by omega)) rfl RW.jn)) ?_
        refine QuP.nil ?_
        refine UW.nil (EX.seq ?_)
        -- mq: cond
        refine CW.condF rfl ((decide_eq_false (by omega))) ?_
        refine CW.skip (EX.seq (CW.seq (CW.region ?_)))
        refine RW.assign rfl rfl ?_
        refine RW.nil (EX.seq (CW.seq (CW.seq ?_)))
        -- mq: region
        refine CW.ownNil 37 8 ?_
        refine CW.region ?_
        refine RW.move rfl rfl ?_
        refine RW.move rfl rfl ?_
        refine RW.ixAddr (q := i) sl26 rfl rfl rfl (by first | rfl | assumption) (by omega) (by omega) ?_
        refine RW.ixArr (q := 0) Try.underlying28 ar28 rfl rfl rfl (by omega) (by omega) ?_
        refine RW.load1 sc3 rfl rfl (fun w' hw' => hw'.base_cell (hcl 0 _ rfl) (by simp)) ?_
        refine RW.assign rfl rfl ?_
        refine RW.nil (EX.seq (CW.block ?_))
        -- mq: loop
        refine CW.loop (ι := Nat × Value) (fun t => [(8, .int .i64 (t.1 : Int)), (7, t.2), (0, .slice A rows.length c), (1, .int .u16 (a : Int)), (5, .slice A5 n5 c5), (6, .int .i64 (i : Int))]) (fun t => SH w4 [] [own 37 8 t.2 (lawL ((rows.take t.1).drop s)).length (ECell.all (lawL ((rows.take t.1).drop s)))]) (fun t => s ≤ t.1 ∧ t.1 ≤ e ∧ ∀ g, t.2.ownBlock = some g → w4.heap.size ≤ g) (fun t => e - t.1) ?_ ?_
        · exact fun w' hw' => ⟨(s, .slice none 0 0), ⟨Nat.le_refl _, by dsimp only; omega, by simp [Value.ownBlock]⟩, (by repeat (first | exact Sub.nil | refine Sub.cons (by rfl) ?_)), by
            dsimp only
            rw [List.drop_eq_nil_of_le (by rw [List.length_take]; omega)]
            exact hw'⟩
        · rintro ⟨k, v⟩ ⟨hsk, hke, hfr⟩
          dsimp only at hsk hke hfr ⊢
          have hXl := lawL_len ((rows.take k).drop s)
          have hXs := sum_seg rows s k
          refine CW.seq (CW.seq (CW.region ?_))
          refine RW.move rfl rfl ?_
          refine RW.move rfl rfl ?_
          refine RW.move rfl rfl ?_
          refine RW.ixAddr (q := i) sl26 rfl rfl rfl (by first | rfl | assumption) (by omega) (by omega) ?_
          refine RW.ixArr (q := 1) Try.underlying28 ar28 rfl rfl rfl (by omega) (by omega) ?_
          refine RW.load1 sc3 rfl rfl (fun w' hw' => hw'.base_cell (hcl 1 _ rfl) (by simp)) ?_
          refine RW.lss rfl rfl rfl ?_
          refine RW.nil (EX.seq ?_)
          -- mq: cond
          first | refine CW.condD rfl (fun hke2 => ?_) (fun hke2 => ?_) | refine CW.cond rfl (fun hke2 => ?_) (fun hke2 => ?_)
          · skip
            obtain ⟨row, hrow⟩ : ∃ row, rows[k]? = some row := ⟨rows[k]'(by omega), List.getElem?_eq_getElem _⟩
            obtain ⟨rd, B, m, d, hA, _, hcell, hrd⟩ := (hr.ext hx4 (by simp)).at_ hrow
            have hm := hrd.len
            have hrl : row.1.length ≤ sumLen rows := mem_sumLen0 (List.mem_of_getElem? hrow)
            have hseg := seg_snoc hsk hrow
            have hXk := lawL_len ((rows.take (k + 1)).drop s)
            have hXk2 := sum_seg rows s (k + 1)
            refine CW.skip (EX.seq (CW.seq (CW.block (CW.seq (CW.region ?_)))))
            refine RW.move rfl rfl ?_
            refine RW.move rfl rfl ?_
            refine RW.ixAddr (q := k) sl22 rfl rfl rfl (by first | rfl | assumption) (by omega) (by omega) ?_
            refine RW.fieldP fl31x0 rfl rfl ?_
            refine RW.load1 sc29 rfl rfl (fun w' hw' => hw'.base_cell (hcell 0 _ rfl) (by simp)) ?_
            refine RW.lenSl Try.underlying29 rfl rfl ?_
            refine RW.assign rfl rfl ?_
            refine RW.nil (EX.seq (CW.seq (CW.region ?_)))
            refine RW.move rfl rfl ?_
            refine RW.gtr rfl rfl rfl ?_
            refine RW.move rfl rfl ?_
            -- mq: guard slot 78
            refine RW.casesB 78 rfl (fun h2 => ?_) (fun h2 => ?_)
            · skip
              have h2p := of_decide_eq_true h2
              obtain ⟨y, hy⟩ : ∃ y, row.1[m - 1]? = some y := ⟨row.1[m - 1]'(by omega), List.getElem?_eq_getElem _⟩
              obtain ⟨bd, hBd, _, hyc⟩ := hrd.at_ hy
              refine RW.guardT rfl rfl h2 ?_
              refine RW.move rfl rfl ?_
              refine RW.guardT rfl rfl h2 ?_
              refine RW.move rfl rfl ?_
              refine RW.guardT rfl rfl h2 ?_
              refine RW.ixAddr (q := k) sl22 rfl rfl rfl (by first | rfl | assumption) (by omega) (by omega) ?_
              refine RW.guardT rfl rfl h2 ?_
              refine RW.fieldP fl31x0 rfl rfl ?_
              refine RW.guardT rfl rfl h2 ?_
              refine RW.load1 sc29 rfl rfl (fun w' hw' => hw'.base_cell (hcell 0 _ rfl) (by simp)) ?_
              refine RW.guardT rfl rfl h2 ?_
              refine RW.move rfl rfl ?_
              refine RW.guardT rfl rfl h2 ?_
              refine RW.sub_ rfl rfl rfl (wrap64 (by omega) (by omega)) ?_
              refine RW.guardT rfl rfl h2 ?_
              refine RW.ixAddr (q := (m - 1)) sl29 rfl rfl rfl (by first | rfl | assumption) (by omega) (by omega) ?_
              refine RW.guardT rfl rfl h2 ?_
              refine RW.fieldP fl37x2 rfl rfl ?_
              refine RW.guardT rfl rfl h2 ?_
              refine RW.load1 sc3 rfl rfl (fun w' hw' => hw'.base_cell (hyc 2 _ rfl) (by simp)) ?_
              refine RW.guardT rfl rfl h2 ?_
              refine RW.eqlI rfl rfl rfl ?_
              refine RW.pickB rfl rfl h2 rfl ?_
              refine RW.nil (EX.seq ?_)
              -- mq: cond
              first | refine CW.condD rfl (fun h3 => ?_) (fun h3 => ?_) | refine CW.cond rfl (fun h3 => ?_) (fun h3 => ?_)
              · skip
                have hX' : lawL ((rows.take (k + 1)).drop s) = lawL ((rows.take k).drop s) ++ (row.1.take (m - 1)).drop 0 := by rw [hseg, lawL_snoc, ← hm, cutPad_yes (by rw [hm]; exact hy) h3]
                have hYl : ((row.1.take (m - 1)).drop 0).length = m - 1 - 0 := by rw [List.drop_zero, List.length_take]; omega
                refine CW.region ?_
                refine RW.move rfl rfl ?_
                refine RW.move rfl rfl ?_
                refine RW.move rfl rfl ?_
                refine RW.ixAddr (q := k) sl22 rfl rfl rfl (by first | rfl | assumption) (by omega) (by omega) ?_
                refine RW.fieldP fl31x0 rfl rfl ?_
                refine RW.load1 sc29 rfl rfl (fun w' hw' => hw'.base_cell (hcell 0 _ rfl) (by simp)) ?_
                refine RW.move rfl rfl ?_
                refine RW.sub_ rfl rfl rfl (wrap64 (by omega) (by omega)) ?_
                refine RW.sliceSl 0 (m - 1) sl29 rfl rfl (.inr ⟨rfl, rfl⟩) (.inl ⟨_, _, rfl, rfl, by omega⟩) (by omega) (by have := hrd.cap; omega) ?_
                refine RW.appendSl (E := ECell) (src := (row.1.take (m - 1)).drop 0) sl29 rfl rfl rfl (fun _ => by first | exact Upd.head | exact Upd.tail Upd.head | exact Upd.tail (Upd.tail Upd.head) | exact Upd.tail (Upd.tail (Upd.tail Upd.head)) | exact Upd.tail (Upd.tail (Upd.tail (Upd.tail Upd.head))) | exact Upd.tail (Upd.tail (Upd.tail (Upd.tail (Upd.tail Upd.head)))) | exact Upd.tail (Upd.tail (Upd.tail (Upd.tail (Upd.tail (Upd.tail Upd.head)))))) (fun w' hw' => (hrd.cut (p := 0) (q := m - 1) (by omega) (by omega)).ext hw'.ext (by simp)) (by simp only [maxLen]; omega) (by omega) (fun v100 hv100 => ?_)
                refine RW.assign rfl rfl ?_
                refine RW.nil (EX.bkN (EX.seq (CW.region ?_)))
                refine RW.move rfl rfl ?_
                refine RW.add rfl rfl rfl (wrap64 (by omega) (by omega)) ?_
                refine RW.assign rfl rfl ?_
                refine RW.nil ?_
                -- mq: loopend
                refine EX.lpN (k + 1, v100) ⟨by dsimp only; omega, by dsimp only; omega, fun g hg => by
                  rcases hv100 g hg with h | h
                  · exact hfr g h
                  · exact h.1⟩ (by dsimp only; omega) (by repeat (first | exact Sub.nil | refine Sub.cons (by rfl) ?_)) (fun w' hw' => ?_)
                dsimp only
                rw [hX', List.length_append, Enc.all_append, hYl]
                exact hw'
              · skip
                have hX' : lawL ((rows.take (k + 1)).drop s) = lawL ((rows.take k).drop s) ++ row.1 := by rw [hseg, lawL_snoc, cutPad_no (by rw [hm]; exact hy) h3]
                refine CW.region ?_
                refine RW.move rfl rfl ?_
                refine RW.move rfl rfl ?_
                refine RW.move rfl rfl ?_
                refine RW.ixAddr (q := k) sl22 rfl rfl rfl (by first | rfl | assumption) (by omega) (by omega) ?_
                refine RW.fieldP fl31x0 rfl rfl ?_
                refine RW.load1 sc29 rfl rfl (fun w' hw' => hw'.base_cell (hcell 0 _ rfl) (by simp)) ?_
                refine RW.appendSl (E := ECell) (src := row.1) sl29 rfl rfl rfl (fun _ => by first | exact Upd.head | exact Upd.tail Upd.head | exact Upd.tail (Upd.tail Upd.head) | exact Upd.tail (Upd.tail (Upd.tail Upd.head)) | exact Upd.tail (Upd.tail (Upd.tail (Upd.tail Upd.head))) | exact Upd.tail (Upd.tail (Upd.tail (Upd.tail (Upd.tail Upd.head)))) | exact Upd.tail (Upd.tail (Upd.tail (Upd.tail (Upd.tail (Upd.tail Upd.head)))))) (fun w' hw' => hrd.ext hw'.ext (by simp)) (by simp only [maxLen]; omega) (by omega) (fun v107 hv107 => ?_)
                refine RW.assign rfl rfl ?_
                refine RW.nil (EX.bkN (EX.seq (CW.region ?_)))
                refine RW.move rfl rfl ?_
                refine RW.add rfl rfl rfl (wrap64 (by omega) (by omega)) ?_
                refine RW.assign rfl rfl ?_
                refine RW.nil ?_
                -- mq: loopend
                refine EX.lpN (k + 1, v107) ⟨by dsimp only; omega, by dsimp only; omega, fun g hg => by
                  rcases hv107 g hg with h | h
                  · exact hfr g h
                  · exact h.1⟩ (by dsimp only; omega) (by repeat (first | exact Sub.nil | refine Sub.cons (by rfl) ?_)) (fun w' hw' => ?_)
                dsimp only
                rw [hX', List.length_append, Enc.all_append, hm]
                exact hw'
            · skip
              have h2p := of_decide_eq_false h2
              have hm0' : row.1 = [] := List.eq_nil_of_length_eq_zero (by omega)
              have hX' : lawL ((rows.take (k + 1)).drop s) = lawL ((rows.take k).drop s) ++ row.1 := by rw [hseg, lawL_snoc, hm0']; rfl
              refine RW.guardF rfl rfl rfl h2 ?_
              refine RW.guardF rfl rfl rfl h2 ?_
              refine RW.guardF rfl rfl rfl h2 ?_
              refine RW.guardF rfl rfl rfl h2 ?_
              refine RW.guardF rfl rfl rfl h2 ?_
              refine RW.guardF rfl rfl rfl h2 ?_
              refine RW.guardF rfl rfl rfl h2 ?_
              refine RW.guardF rfl rfl rfl h2 ?_
              refine RW.guardF rfl rfl rfl h2 ?_
              refine RW.guardF rfl rfl rfl h2 ?_
              refine RW.guardF rfl rfl rfl h2 ?_
              refine RW.pickC rfl rfl h2 rfl ?_
              refine RW.nil (EX.seq ?_)
              -- mq: cond
              refine CW.condF rfl (rfl) ?_
              refine CW.region ?_
              refine RW.move rfl rfl ?_
              refine RW.move rfl rfl ?_
              refine RW.move rfl rfl ?_
              refine RW.ixAddr (q := k) sl22 rfl rfl rfl (by first | rfl | assumption) (by omega) (by omega) ?_
              refine RW.fieldP fl31x0 rfl rfl ?_
              refine RW.load1 sc29 rfl rfl (fun w' hw' => hw'.base_cell (hcell 0 _ rfl) (by simp)) ?_
              refine RW.appendSl (E := ECell) (src := row.1) sl29 rfl rfl rfl (fun _ => by first | exact Upd.head | exact Upd.tail Upd.head | exact Upd.tail (Upd.tail Upd.head) | exact Upd.tail (Upd.tail (Upd.tail Upd.head)) | exact Upd.tail (Upd.tail (Upd.tail (Upd.tail Upd.head))) | exact Upd.tail (Upd.tail (Upd.tail (Upd.tail (Upd.tail Upd.head)))) | exact Upd.tail (Upd.tail (Upd.tail (Upd.tail (Upd.tail (Upd.tail Upd.head)))))) (fun w' hw' => hrd.ext hw'.ext (by simp)) (by simp only [maxLen]; omega) (by omega) (fun v107 hv107 => ?_)
              refine RW.assign rfl rfl ?_
              refine RW.nil (EX.bkN (EX.seq (CW.region ?_)))
              refine RW.move rfl rfl ?_
              refine RW.add rfl rfl rfl (wrap64 (by omega) (by omega)) ?_
              refine RW.assign rfl rfl ?_
              refine RW.nil ?_
              -- mq: loopend
              refine EX.lpN (k + 1, v107) ⟨by dsimp only; omega, by dsimp only; omega, fun g hg => by
                rcases hv107 g hg with h | h
                · exact hfr g h
                · exact h.1⟩ (by dsimp only; omega) (by repeat (first | exact Sub.nil | refine Sub.cons (by rfl) ?_)) (fun w' hw' => ?_)
              dsimp only
              rw [hX', List.length_append, Enc.all_append, hm]
              exact hw'
          · skip
            have hke' : k = e := by omega
            subst hke'
            have hsegO : segOld rows ((s : Int), (k : Int)) = (rows.take k).drop s := rfl
            obtain ⟨X, hX⟩ : ∃ X, X = lawL ((rows.take k).drop s) := ⟨_, rfl⟩
            rw [← hX] at hXl ⊢
            have hXm : ∀ x ∈ X, x.more.length ≤ 100000 := by
              intro x hx
              rw [hX] at hx
              obtain ⟨r, hr', hx'⟩ := List.mem_flatMap.1 hx
              refine Nat.le_trans (hmr r (List.mem_of_mem_take (List.mem_of_mem_drop hr')) x ?_) (by decide)
              unfold cutPad at hx'
              split at hx'
              · exact List.dropLast_subset _ hx'
              · exact hx'
            refine CW.exit (EX.seqE (EX.lpE (EX.bkE (EX.seq (CW.seq ?_)))))
            -- mq: region
            refine CW.region ?_
            refine RW.move rfl rfl ?_
            -- mq: at
            refine RW.rebase (fun w5 hw5 => ?_)
            have hx5 : Ext [] w4 w5 := hw5.ext
            obtain ⟨A7, c7, rfl, hrd7⟩ := Rd.of_own (E := ECell) (hw5.has Has.head) rfl
            refine RW.callA (R := fun _ v _ => ∃ b, v = .bool b ∧ (b = true → mendL X = X)) rfl ca7 rfl (fun w' hw' => Right_c w' _ A7 X.length c7 X (hrd7.ext hw'.ext (by simp)) (by omega) hXm) (fun w6 w7 v hw6 he67 hw7 hlt7 hv => ?_)
            obtain ⟨b7, rfl, hb7⟩ := hv
            have hx7 : Ext [] w5 w7 := hw6.ext.trans0 he67
            have hrd8 := hrd7.ext hx7 (by simp)
            refine RW.not_ rfl rfl ?_
            refine RW.move rfl rfl ?_
            -- mq: guard slot 111
            have hx8 : Ext [] w w7 := (hx4.trans0 hx5).trans0 hx7
            have hnext : mendL X = X → (∀ y, X.getLast? = some y → y.half ≠ 3) → ∀ j ln, j < i + 1 → L[j]? = some ln → mendL (cellsOf (segOld rows ln)) = cellsOf (segOld rows ln) := fun hmX hlX j ln hj hln => by
              rcases Nat.lt_succ_iff_lt_or_eq.1 hj with h | rfl
              · exact hall j ln h hln
              · rw [hp] at hln
                obtain rfl := Option.some.inj hln
                rw [hsegO]
                exact lawL_right (by rw [← hX]; exact hmX) (by rw [← hX]; exact hlX)
            refine RW.casesB 111 rfl (fun a1 => ?_) (fun a1 => ?_)
            · skip
              refine RW.guardF rfl rfl rfl a1 ?_
              refine RW.guardF rfl rfl rfl a1 ?_
              refine RW.guardF rfl rfl rfl a1 ?_
              refine RW.guardF rfl rfl rfl a1 ?_
              refine RW.guardU rfl rfl rfl ?_
              refine RW.guardU rfl rfl rfl ?_
              refine RW.guardU rfl rfl rfl ?_
              refine RW.guardU rfl rfl rfl ?_
              refine RW.guardU rfl rfl rfl ?_
              refine RW.guardU rfl rfl rfl ?_
              refine RW.guardU rfl rfl rfl ?_
              refine RW.guardU rfl rfl rfl ?_
              refine RW.guardF rfl rfl rfl a1 ?_
              refine RW.pickB rfl rfl a1 rfl ?_
              refine RW.nil (EX.seq ?_)
              -- mq: cond
              refine CW.condT rfl (rfl) ?_
              refine CW.seq (CW.region ?_)
              refine RW.assign rfl rfl ?_
              refine RW.nil (EX.seq (CW.ret (EX.bkR (EX.seqR (EX.lpR (EX.bkR (EX.seqR ?_)))))))
              refine EX.fin1 Try.results3 rfl (fun wz hw => ?_)
              -- mq: done
              exact ⟨rfl, hx8.trans0 hw.ext⟩
            · skip
              have hmX : mendL X = X := hb7 (by cases b7 <;> simp_all)
              refine RW.guardT rfl rfl a1 ?_
              refine RW.move rfl rfl ?_
              refine RW.guardT rfl rfl a1 ?_
              refine RW.lenSl Try.underlying29 rfl rfl ?_
              refine RW.guardT rfl rfl a1 ?_
              refine RW.gtr rfl rfl rfl ?_
              refine RW.guardT rfl rfl a1 ?_
              refine RW.move rfl rfl ?_
              -- mq: guard slot 115
              refine RW.casesB 115 rfl (fun a2 => ?_) (fun a2 => ?_)
              · skip
                have a2p := of_decide_eq_true a2
                obtain ⟨y, hy⟩ : ∃ y, X[X.length - 1]? = some y := ⟨X[X.length - 1]'(by omega), List.getElem?_eq_getElem _⟩
                obtain ⟨bd, hBd, _, hyc⟩ := hrd8.at_ hy
                refine RW.guardT rfl rfl a2 ?_
                refine RW.move rfl rfl ?_
                refine RW.guardT rfl rfl a2 ?_
                refine RW.move rfl rfl ?_
                refine RW.guardT rfl rfl a2 ?_
                refine RW.lenSl Try.underlying29 rfl rfl ?_
                refine RW.guardT rfl rfl a2 ?_
                refine RW.sub_ rfl rfl rfl (wrap64 (by omega) (by omega)) ?_
                refine RW.guardT rfl rfl a2 ?_
                refine RW.ixAddr (q := (X.length - 1)) sl29 rfl rfl rfl (by first | rfl | assumption) (by omega) (by omega) ?_
                refine RW.guardT rfl rfl a2 ?_
                refine RW.fieldP fl37x2 rfl rfl ?_
                refine RW.guardT rfl rfl a2 ?_
                refine RW.load1 sc3 rfl rfl (fun w' hw' => hw'.base_cell (hyc 2 _ rfl) (by simp [feet])) ?_
                refine RW.guardT rfl rfl a2 ?_
                refine RW.eqlI rfl rfl rfl ?_
                refine RW.guardT rfl rfl a1 ?_
                refine RW.pickB rfl rfl a2 rfl ?_
                refine RW.pickC rfl rfl a1 rfl ?_
                refine RW.nil (EX.seq ?_)
                -- mq: cond
                first | refine CW.condD rfl (fun h3 => ?_) (fun h3 => ?_) | refine CW.cond rfl (fun h3 => ?_) (fun h3 => ?_)
                · skip
                  refine CW.seq (CW.region ?_)
                  refine RW.assign rfl rfl ?_
                  refine RW.nil (EX.seq (CW.ret (EX.bkR (EX.seqR (EX.lpR (EX.bkR (EX.seqR ?_)))))))
                  refine EX.fin1 Try.results3 rfl (fun wz hw => ?_)
                  -- mq: done
                  exact ⟨rfl, hx8.trans0 hw.ext⟩
                · skip
                  refine CW.skip (EX.bkN (EX.seq (CW.region ?_)))
                  refine RW.move rfl rfl ?_
                  refine RW.add rfl rfl rfl (wrap64 (by omega) (by omega)) ?_
                  refine RW.assign rfl rfl ?_
                  refine RW.nil ?_
                  -- mq: loopend
                  exact EX.lpN (i + 1) ⟨by omega, hnext hmX (fun z hz => by
                    rw [List.getLast?_eq_getElem?, hy] at hz
                    obtain rfl := Option.some.inj hz
                    exact h3)⟩ (by omega) (by repeat (first | exact Sub.nil | refine Sub.cons (by rfl) ?_)) (fun w' hw' => hw4.trans0 ((hx5.trans0 hx7).trans0 hw'.ext))
              · skip
                have a2p := of_decide_eq_false a2
                refine RW.guardF rfl rfl rfl a2 ?_
                refine RW.guardF rfl rfl rfl a2 ?_
                refine RW.guardF rfl rfl rfl a2 ?_
                refine RW.guardF rfl rfl rfl a2 ?_
                refine RW.guardF rfl rfl rfl a2 ?_
                refine RW.guardF rfl rfl rfl a2 ?_
                refine RW.guardF rfl rfl rfl a2 ?_
                refine RW.guardF rfl rfl rfl a2 ?_
                refine RW.guardT rfl rfl a1 ?_
                refine RW.pickC rfl rfl a2 rfl ?_
                refine RW.pickC rfl rfl a1 rfl ?_
                refine RW.nil (EX.seq ?_)
                -- mq: cond
                refine CW.condF rfl (rfl) ?_
                refine CW.skip (EX.bkN (EX.seq (CW.region ?_)))
                refine RW.move rfl rfl ?_
                refine RW.add rfl rfl rfl (wrap64 (by omega) (by omega)) ?_
                refine RW.assign rfl rfl ?_
                refine RW.nil ?_
                -- mq: loopend
                exact EX.lpN (i + 1) ⟨by omega, hnext hmX (fun z hz => by
                    rw [List.eq_nil_of_length_eq_zero (l := X) (by omega)] at hz
                    cases hz)⟩ (by omega) (by repeat (first | exact Sub.nil | refine Sub.cons (by rfl) ?_)) (fun w' hw' => hw4.trans0 ((hx5.trans0 hx7).trans0 hw'.ext))
      · skip
        have hin : i = n5 := by omega
        have hRD : RightDoc rows := fun ln hln => by
          rw [← hLe] at hln
          obtain ⟨j, hj⟩ := List.getElem?_of_mem hln
          have hj2 := (List.getElem?_eq_some_iff.1 hj).1
          exact hall j ln (by omega) hj
        obtain ⟨x, hx⟩ : ∃ x : Nat, x = 2 + a % 99 := ⟨_, rfl⟩
        obtain ⟨o1, o2, o3⟩ := out_law (rows := rows) (cols := x) (by omega) hsz (fun r hr' y hy => hmr r hr' y hy) hRD
        have hol := of_len hsz (fun r hr' y hy => hmr r hr' y hy)
        refine CW.exit (EX.seqE (EX.lpE (EX.bkE (EX.seq (CW.seq ?_)))))
        -- mq: region
        refine CW.region ?_
        refine RW.move rfl rfl ?_
        refine RW.move rfl rfl ?_
        refine RW.remN rfl rfl rfl (by omega) (by omega) ?_
        refine RW.convI rfl rfl Try.underlying23 Try.underlying3 (wrap64 (by omega) (by omega)) ?_
        refine RW.add (r := (x : Int)) rfl rfl rfl (by rw [wrap64 (by omega) (by omega)]; omega) ?_
        -- mq: at
        refine RW.callA (R := fun w0 => IsReflow (outF rows x (linesL rows rows.length)) [] w0) rfl ca8 rfl (fun w' hw' => (Reflow_c w' F F A none rows.length c 0 0 rows [] x (hr.ext (hx4.trans0 hw'.ext) (by simp)) (Rd.nil EPos w' F 0 (by decide) none) hsz (by omega) (by simp) (by omega) (by omega)).mono (fun e w'' h => h.toA)) ?_
        rintro w5 w6 v hw5 he56 hw6 hlt6 ⟨A1, n1, c1, A2, n2, c2, rfl, hrd1, _⟩
        have hx6 : Ext [] w w6 := (hx4.trans0 hw5.ext).trans0 he56
        have hm1 := hrd1.len
        subst hm1
        refine RW.move rfl rfl ?_
        refine RW.extract rfl rfl rfl ?_
        refine RW.extract rfl rfl rfl ?_
        refine RW.assign rfl rfl ?_
        refine RW.assign rfl rfl ?_
        refine RW.nil (EX.seq (CW.seq ?_))
        -- mq: region
        refine CW.region ?_
        refine RW.move rfl rfl ?_
        refine RW.buildS bu44 rfl rfl rfl ?_
        refine RW.move rfl rfl ?_
        refine RW.lenSl Try.underlying22 rfl rfl ?_
        refine RW.buildS bu44 rfl rfl rfl ?_
        refine RW.call rfl ca9 rfl (fun w' hw' => Of_c w' _ A1 _ c1 _ (hrd1.ext hw'.ext (by simp [feet])) ⟨0, 0⟩ ⟨((outF rows x (linesL rows rows.length)).length : Int), 0⟩ (by omega) (by decide) (by decide) (Int.le_refl 0) (by dsimp only; omega) o2 (by rw [o3]; exact hol)) ?_
        refine RW.move rfl rfl ?_
        refine RW.buildS bu44 rfl rfl rfl ?_
        refine RW.move rfl rfl ?_
        refine RW.lenSl Try.underlying22 rfl rfl ?_
        refine RW.buildS bu44 rfl rfl rfl ?_
        refine RW.call rfl ca9 rfl (fun w' hw' => Of_c w' _ A _ c rows (hr.ext (hx6.trans0 hw'.ext) (by simp [feet])) ⟨0, 0⟩ ⟨(rows.length : Int), 0⟩ (by omega) (by decide) (by decide) (Int.le_refl 0) (by dsimp only; omega) (fun r hr' y hy => Nat.le_trans (hmr r hr' y hy) (by decide)) hol) ?_
        refine RW.eqlS rfl rfl rfl ?_
        refine RW.assign rfl rfl ?_
        refine RW.nil (EX.seq (CW.ret ?_))
        refine EX.fin1 Try.results3 rfl (fun wz hw => ?_)
        -- mq: done
        exact ⟨by rw [o3]; simp, hx6.trans0 hw.ext⟩
end Go.Proofs.Ytjmmikdbhhomiaa.Mq
