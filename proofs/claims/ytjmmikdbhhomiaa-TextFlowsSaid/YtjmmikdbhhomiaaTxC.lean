/- text: within, size, last -/
import Derived.Test.YtjmmikdbhhomiaaTxB
namespace Go.Proofs.Ytjmmikdbhhomiaa.Mq
open Go Go.RowKit Go.Proofs

abbrev partV (A : Option Addr) (n c : Nat) (fr to : PosV) (b : Nat) : List Value :=
  [.slice A n c, .int .i64 fr.row, .int .i64 fr.col, .int .i64 to.row, .int .i64 to.col, .func (.func 23) #[] #[.pointer (some ⟨b, 0, none⟩)]]
theorem rd_max {α : Type} {E : Enc α} {w : World} {F : Nat → Prop} {A : Option Addr} {n c : Nat} {l : List α} (h : Rd E w F A n c l) : n ≤ maxLen := Nat.le_trans h.cap h.max
theorem within_c (w : World) (F : Nat → Prop) (A : Option Addr) (n c : Nat) (rows : List RowL) (hr : RdRows w F A n c rows) (fr to : PosV) (b k : Nat) (row : RowL) (hrow : rows[k]? = some row) :
    Calls Try.prog 48 [.agg (partV A n c fr to b).toArray, .int .i64 (k : Int)].toArray w (fun e w' => e = .returned (.tuple #[.int .i64 (inA fr k), .int .i64 (inB to k row.1.length)]) ∧ Ext [] w w') := by
  have hl := hr.len
  have hlt := (List.getElem?_eq_some_iff.1 hrow).1
  obtain ⟨ad, B, m, d, hA, _, hcell, hrd⟩ := hr.at_ hrow
  have hm := hrd.len
  have hmx := rd_max hrd
  simp only [maxLen] at hmx
  refine calls (n := 36) Try.func48 rfl Try.ntmps48 rfl ?_
  refine CW.sub (H' := SH w [] []) ?_ (Sub.refl _) (fun x hx => SH.start' _ _ hx)
  refine CW.seq (CW.region ?_)
  refine RW.boxA rfl rfl (fun g2 hg2 hf2 => ?_)
  refine RW.assign rfl rfl ?_
  refine RW.assign rfl rfl ?_
  refine RW.nil (EX.seq (CW.seq ?_))
  -- mq: region
  refine CW.drawU [0, 1, 2, 3, 4, 5, 6, 7, 8] 0 [[]] (SH w [] [blk g2 (partV A n c fr to b) 81]) mixed (by kernel_rfl) (fun _ hw => hw.drew) (fun _ h => (by first | trivial | exact h | exact h.ch | exact (h.rem Rem.head).ch | exact ((h.rem Rem.head).rem Rem.head).ch | exact (((h.rem Rem.head).rem Rem.head).rem Rem.head).ch)) ?_
  refine QuP.cons rfl (fun wq hq => (RW.fieldB fl81x0 rfl rfl RW.jn)) ?_
  refine QuP.cons rfl (fun wq hq => (RW.load1 sc22 rfl rfl (fun w1 e1 => by subst e1; exact hq.blk_cell (by first | exact Has.head | exact Has.tail Has.head | exact Has.tail (Has.tail Has.head) | exact Has.tail (Has.tail (Has.tail Has.head)) | exact Has.tail (Has.tail (Has.tail (Has.tail Has.head))) | exact Has.tail (Has.tail (Has.tail (Has.tail (Has.tail Has.head)))) | exact Has.tail (Has.tail (Has.tail (Has.tail (Has.tail (Has.tail Has.head)))))) rfl) RW.jn)) ?_
  refine QuP.cons rfl (fun wq hq => (RW.move rfl rfl RW.jn)) ?_
  refine QuP.cons rfl (fun wq hq => (RW.ixAddr (q := k) sl22 rfl rfl rfl (by first | rfl | assumption) (by omega) (by omega) RW.jn)) ?_
  refine QuP.cons rfl (fun wq hq => (RW.fieldP fl31x0 rfl rfl RW.jn)) ?_
  refine QuP.cons rfl (fun wq hq => (RW.load1 sc29 rfl rfl (fun w1 e1 => by subst e1; exact (hq.base_cell (hcell 0 _ rfl) (by simp))) RW.jn)) ?_
  refine QuP.cons rfl (fun wq hq => (RW.lenSl Try.underlying29 rfl rfl RW.jn)) ?_
  refine QuP.cons rfl (fun wq hq => (RW.assign rfl rfl RW.jn)) ?_
  refine QuP.cons rfl (fun wq hq => (RW.assign rfl rfl RW.jn)) ?_
  refine QuP.nil ?_
  refine UW.nil (EX.seq (CW.seq (CW.seq (CW.region ?_))))
  refine RW.move rfl rfl ?_
  refine RW.fieldB fl81x1 rfl rfl ?_
  refine RW.fieldB fl44x0 rfl rfl ?_
  refine RW.loadB1 sc3 rfl rfl (by first | exact Has.head | exact Has.tail Has.head | exact Has.tail (Has.tail Has.head) | exact Has.tail (Has.tail (Has.tail Has.head)) | exact Has.tail (Has.tail (Has.tail (Has.tail Has.head))) | exact Has.tail (Has.tail (Has.tail (Has.tail (Has.tail Has.head)))) | exact Has.tail (Has.tail (Has.tail (Has.tail (Has.tail (Has.tail Has.head)))))) rfl ?_
  refine RW.eqlI rfl rfl rfl ?_
  refine RW.nil (EX.seq ?_)
  -- mq: cond
  first | refine CW.condD rfl (fun h0 => ?_) (fun h0 => ?_) | refine CW.cond rfl (fun h0 => ?_) (fun h0 => ?_)
  · skip
    refine CW.region ?_
    refine RW.fieldB fl81x1 rfl rfl ?_
    refine RW.fieldB fl44x1 rfl rfl ?_
    refine RW.loadB1 sc3 rfl rfl (by first | exact Has.head | exact Has.tail Has.head | exact Has.tail (Has.tail Has.head) | exact Has.tail (Has.tail (Has.tail Has.head)) | exact Has.tail (Has.tail (Has.tail (Has.tail Has.head))) | exact Has.tail (Has.tail (Has.tail (Has.tail (Has.tail Has.head)))) | exact Has.tail (Has.tail (Has.tail (Has.tail (Has.tail (Has.tail Has.head)))))) rfl ?_
    refine RW.max2 rfl rfl rfl ?_
    refine RW.assign rfl rfl ?_
    refine RW.nil (EX.seq (CW.seq (CW.seq (CW.region ?_))))
    refine RW.move rfl rfl ?_
    refine RW.fieldB fl81x2 rfl rfl ?_
    refine RW.fieldB fl44x0 rfl rfl ?_
    refine RW.loadB1 sc3 rfl rfl (by first | exact Has.head | exact Has.tail Has.head | exact Has.tail (Has.tail Has.head) | exact Has.tail (Has.tail (Has.tail Has.head)) | exact Has.tail (Has.tail (Has.tail (Has.tail Has.head))) | exact Has.tail (Has.tail (Has.tail (Has.tail (Has.tail Has.head)))) | exact Has.tail (Has.tail (Has.tail (Has.tail (Has.tail (Has.tail Has.head)))))) rfl ?_
    refine RW.eqlI rfl rfl rfl ?_
    refine RW.nil (EX.seq ?_)
    -- mq: cond
    first | refine CW.condD rfl (fun h1 => ?_) (fun h1 => ?_) | refine CW.cond rfl (fun h1 => ?_) (fun h1 => ?_)
    · skip
      refine CW.region ?_
      refine RW.move rfl rfl ?_
      refine RW.fieldB fl81x2 rfl rfl ?_
      refine RW.fieldB fl44x1 rfl rfl ?_
      refine RW.loadB1 sc3 rfl rfl (by first | exact Has.head | exact Has.tail Has.head | exact Has.tail (Has.tail Has.head) | exact Has.tail (Has.tail (Has.tail Has.head)) | exact Has.tail (Has.tail (Has.tail (Has.tail Has.head))) | exact Has.tail (Has.tail (Has.tail (Has.tail (Has.tail Has.head)))) | exact Has.tail (Has.tail (Has.tail (Has.tail (Has.tail (Has.tail Has.head)))))) rfl ?_
      refine RW.min2 rfl rfl rfl ?_
      refine RW.assign rfl rfl ?_
      refine RW.nil (EX.seq (CW.seq (CW.region ?_)))
      refine RW.move rfl rfl ?_
      refine RW.move rfl rfl ?_
      refine RW.assign rfl rfl ?_
      refine RW.assign rfl rfl ?_
      refine RW.nil (EX.seq (CW.ret ?_))
      refine EX.fin2 Try.results48 rfl rfl (fun wz hw => ?_)
      -- mq: done
      exact ⟨by unfold inA inB; rw [if_pos h0, if_pos h1, hm], hw.ext⟩
    · skip
      refine CW.skip (EX.seq (CW.seq (CW.region ?_)))
      refine RW.move rfl rfl ?_
      refine RW.move rfl rfl ?_
      refine RW.assign rfl rfl ?_
      refine RW.assign rfl rfl ?_
      refine RW.nil (EX.seq (CW.ret ?_))
      refine EX.fin2 Try.results48 rfl rfl (fun wz hw => ?_)
      -- mq: done
      exact ⟨by unfold inA inB; rw [if_pos h0, if_neg h1, hm], hw.ext⟩
  · skip
    refine CW.skip (EX.seq (CW.seq (CW.seq (CW.region ?_))))
    refine RW.move rfl rfl ?_
    refine RW.fieldB fl81x2 rfl rfl ?_
    refine RW.fieldB fl44x0 rfl rfl ?_
    refine RW.loadB1 sc3 rfl rfl (by first | exact Has.head | exact Has.tail Has.head | exact Has.tail (Has.tail Has.head) | exact Has.tail (Has.tail (Has.tail Has.head)) | exact Has.tail (Has.tail (Has.tail (Has.tail Has.head))) | exact Has.tail (Has.tail (Has.tail (Has.tail (Has.tail Has.head)))) | exact Has.tail (Has.tail (Has.tail (Has.tail (Has.tail (Has.tail Has.head)))))) rfl ?_
    refine RW.eqlI rfl rfl rfl ?_
    refine RW.nil (EX.seq ?_)
    -- mq: cond
    first | refine CW.condD rfl (fun h1 => ?_) (fun h1 => ?_) | refine CW.cond rfl (fun h1 => ?_) (fun h1 => ?_)
    · skip
      refine CW.region ?_
      refine RW.move rfl rfl ?_
      refine RW.fieldB fl81x2 rfl rfl ?_
      refine RW.fieldB fl44x1 rfl rfl ?_
      refine RW.loadB1 sc3 rfl rfl (by first | exact Has.head | exact Has.tail Has.head | exact Has.tail (Has.tail Has.head) | exact Has.tail (Has.tail (Has.tail Has.head)) | exact Has.tail (Has.tail (Has.tail (Has.tail Has.head))) | exact Has.tail (Has.tail (Has.tail (Has.tail (Has.tail Has.head)))) | exact Has.tail (Has.tail (Has.tail (Has.tail (Has.tail (Has.tail Has.head)))))) rfl ?_
      refine RW.min2 rfl rfl rfl ?_
      refine RW.assign rfl rfl ?_
      refine RW.nil (EX.seq (CW.seq (CW.region ?_)))
      refine RW.move rfl rfl ?_
      refine RW.move rfl rfl ?_
      refine RW.assign rfl rfl ?_
      refine RW.assign rfl rfl ?_
      refine RW.nil (EX.seq (CW.ret ?_))
      refine EX.fin2 Try.results48 rfl rfl (fun wz hw => ?_)
      -- mq: done
      exact ⟨by unfold inA inB; rw [if_neg h0, if_pos h1, hm], hw.ext⟩
    · skip
      refine CW.skip (EX.seq (CW.seq (CW.region ?_)))
      refine RW.move rfl rfl ?_
      refine RW.move rfl rfl ?_
      refine RW.assign rfl rfl ?_
      refine RW.assign rfl rfl ?_
      refine RW.nil (EX.seq (CW.ret ?_))
      refine EX.fin2 Try.results48 rfl rfl (fun wz hw => ?_)
      -- mq: done
      exact ⟨by unfold inA inB; rw [if_neg h0, if_neg h1, hm], hw.ext⟩
/-- behind the last cell that is no Pad -/
def sizeF (L : List CellV) : Nat → Nat
  | 0 => 0
  | k + 1 => if (L[k]?.map (·.half)) = some 3 then sizeF L k else k + 1
theorem sizeT_c (w : World) (F : Nat → Prop) (A : Option Addr) (n c : Nat) (l : List CellV) (b : Bool) (hr : Rd ECell w F A n c l) :
    Calls Try.prog 50 [.agg [.slice A n c, .bool b].toArray].toArray w (fun e w' => e = .returned (.int .i64 (sizeF l n : Int)) ∧ Ext [] w w') := by
  have hl := hr.len
  have hmx := rd_max hr
  simp only [maxLen] at hmx
  refine calls (n := 22) Try.func50 rfl Try.ntmps50 rfl ?_
  refine CW.sub (H' := SH w [] []) ?_ (Sub.refl _) (fun x hx => SH.start' _ _ hx)
  refine CW.seq (CW.region ?_)
  refine RW.boxA rfl rfl (fun g1 hg1 hf1 => ?_)
  refine RW.assign rfl rfl ?_
  refine RW.nil (EX.seq (CW.seq (CW.region ?_)))
  refine RW.fieldB fl31x0 rfl rfl ?_
  refine RW.loadB1 sc29 rfl rfl (by first | exact Has.head | exact Has.tail Has.head | exact Has.tail (Has.tail Has.head) | exact Has.tail (Has.tail (Has.tail Has.head)) | exact Has.tail (Has.tail (Has.tail (Has.tail Has.head))) | exact Has.tail (Has.tail (Has.tail (Has.tail (Has.tail Has.head)))) | exact Has.tail (Has.tail (Has.tail (Has.tail (Has.tail (Has.tail Has.head)))))) rfl ?_
  refine RW.lenSl Try.underlying29 rfl rfl ?_
  refine RW.assign rfl rfl ?_
  refine RW.nil (EX.seq (CW.seq (CW.block ?_)))
  -- mq: loop
  refine CW.loop (ι := Nat) (fun i => [(3, .int .i64 (i : Int)), (1, .pointer (some ⟨g1, 0, none⟩))]) (fun _ => SH w [] [blk g1 [.slice A n c, .bool b] 31]) (fun i => i ≤ n ∧ sizeF l n = sizeF l i) (fun i => i) ?_ ?_
  · exact fun w hw => ⟨n, ⟨Nat.le_refl _, rfl⟩, (by repeat (first | exact Sub.nil | refine Sub.cons (by rfl) ?_)), hw⟩
  · rintro i ⟨hi, hsz⟩
    refine CW.seq (CW.seq (CW.region ?_))
    refine RW.move rfl rfl ?_
    refine RW.gtr rfl rfl rfl ?_
    refine RW.move rfl rfl ?_
    -- mq: guard slot 9
    refine RW.casesB 9 rfl (fun h0 => ?_) (fun h0 => ?_)
    · skip
      have hi0 : 0 < i := by have := of_decide_eq_true h0; omega
      obtain ⟨x, hx⟩ : ∃ x, l[i - 1]? = some x := ⟨l[i - 1]'(by omega), List.getElem?_eq_getElem _⟩
      obtain ⟨bd, hB, _, hxc⟩ := hr.at_ hx
      refine RW.guardT rfl rfl h0 ?_
      refine RW.fieldB fl31x0 rfl rfl ?_
      refine RW.guardT rfl rfl h0 ?_
      refine RW.loadB1 sc29 rfl rfl (by first | exact Has.head | exact Has.tail Has.head | exact Has.tail (Has.tail Has.head) | exact Has.tail (Has.tail (Has.tail Has.head)) | exact Has.tail (Has.tail (Has.tail (Has.tail Has.head))) | exact Has.tail (Has.tail (Has.tail (Has.tail (Has.tail Has.head)))) | exact Has.tail (Has.tail (Has.tail (Has.tail (Has.tail (Has.tail Has.head)))))) rfl ?_
      refine RW.guardT rfl rfl h0 ?_
      refine RW.move rfl rfl ?_
      refine RW.guardT rfl rfl h0 ?_
      refine RW.sub_ rfl rfl rfl (wrap64 (by omega) (by omega)) ?_
      refine RW.guardT rfl rfl h0 ?_
      refine RW.ixAddr (q := (i - 1)) sl29 rfl rfl rfl (by first | rfl | assumption) (by omega) (by omega) ?_
      refine RW.guardT rfl rfl h0 ?_
      refine RW.fieldP fl37x2 rfl rfl ?_
      refine RW.guardT rfl rfl h0 ?_
      refine RW.load1 sc3 rfl rfl (fun w' hw' => hw'.base_cell (hxc 2 _ rfl) (by simp)) ?_
      refine RW.guardT rfl rfl h0 ?_
      refine RW.eqlI rfl rfl rfl ?_
      refine RW.pickB rfl rfl h0 rfl ?_
      refine RW.nil (EX.seq ?_)
      -- mq: cond
      have hst : sizeF l i = if x.half = 3 then sizeF l (i - 1) else i := by
        conv => lhs; rw [show i = i - 1 + 1 by omega]
        rw [sizeF, hx]
        simp only [Option.map_some, Option.some.injEq]
        rw [show i - 1 + 1 = i by omega]
      first | refine CW.condD rfl (fun h1 => ?_) (fun h1 => ?_) | refine CW.cond rfl (fun h1 => ?_) (fun h1 => ?_)
      · skip
        rw [if_pos h1] at hst
        refine CW.skip (EX.seq (CW.block (CW.region ?_)))
        refine RW.move rfl rfl ?_
        refine RW.sub_ rfl rfl rfl (wrap64 (by omega) (by omega)) ?_
        refine RW.assign rfl rfl ?_
        refine RW.nil (EX.bkN ?_)
        -- mq: loopend
        exact EX.lpN (i - 1) ⟨by omega, hsz.trans hst⟩ (by omega) (Sub.cons (by rw [show ((i - 1 : Nat) : Int) = (i : Int) - 1 by omega]; rfl) (by repeat (first | exact Sub.nil | refine Sub.cons (by rfl) ?_))) (fun w' hw' => hw')
      · skip
        rw [if_neg h1] at hst
        refine CW.exit (EX.seqE (EX.lpE (EX.bkE (EX.seq (CW.seq (CW.region ?_))))))
        refine RW.move rfl rfl ?_
        refine RW.assign rfl rfl ?_
        refine RW.nil (EX.seq (CW.ret ?_))
        refine EX.fin1 Try.results50 rfl (fun wz hw => ?_)
        -- mq: done
        exact ⟨by rw [hsz, hst], hw.ext⟩
    · skip
      refine RW.guardF rfl rfl rfl h0 ?_
      refine RW.guardF rfl rfl rfl h0 ?_
      refine RW.guardF rfl rfl rfl h0 ?_
      refine RW.guardF rfl rfl rfl h0 ?_
      refine RW.guardF rfl rfl rfl h0 ?_
      refine RW.guardF rfl rfl rfl h0 ?_
      refine RW.guardF rfl rfl rfl h0 ?_
      refine RW.guardF rfl rfl rfl h0 ?_
      refine RW.pickC rfl rfl h0 rfl ?_
      refine RW.nil (EX.seq ?_)
      -- mq: cond
      refine CW.condF rfl (rfl) ?_
      refine CW.exit (EX.seqE (EX.lpE (EX.bkE (EX.seq (CW.seq (CW.region ?_))))))
      refine RW.move rfl rfl ?_
      refine RW.assign rfl rfl ?_
      refine RW.nil (EX.seq (CW.ret ?_))
      refine EX.fin1 Try.results50 rfl (fun wz hw => ?_)
      -- mq: done
      have h0' := of_decide_eq_false h0
      obtain rfl : i = 0 := by omega
      exact ⟨by rw [hsz]; rfl, hw.ext⟩
theorem lastX_lo {L : List CellV} {a : Nat} : ∀ k, k ≤ a → lastX L a k = none
  | 0, _ => rfl
  | k + 1, h => by rw [lastX, if_pos (by omega)]
theorem RW.ixArrB {P : Program} {n : Nat} {ops : Array Oper} {Q : Post} {rest : List Oper} {l : Fr} {d : Nat} {ty : TypeId} {pos : String} {af : Array Edge} {H : World → Prop} {x i : Operand} {t e len sz : Nat} {g o : Nat} {q : Nat} {k : IntKind} {j : Int} (ht : P.underlying t = some (.array len e)) (hsz : (P.info? e).map (·.size) = some sz) (hd : Nat.blt d n = true) (hx : ev l x = some (.pointer (some ⟨g, o, none⟩))) (hi : ev l i = some (.int k j))
    (hj : j = (q : Int)) (hlt : q < len)
    (h : RW P n ops Q rest ((d, .pointer (some ⟨g, o + q * sz, none⟩)) :: l) H) : RW P n ops Q (⟨some d, .indexAddr t x i, ty, pos, af, none⟩ :: rest) l H :=
  RW.ixArr ht hsz hd hx hi hj hlt (by rw [Addr.add_lit]; exact h)
theorem inB_bd {to : PosV} {k len : Nat} (h : 0 ≤ to.col) : 0 ≤ inB to k len ∧ inB to k len ≤ (len : Int) := by
  unfold inB
  split <;> omega
theorem inA_bd (fr : PosV) (k : Nat) : 0 ≤ inA fr k := by
  unfold inA
  split <;> omega
theorem last_c (w : World) (F : Nat → Prop) (A : Option Addr) (n c : Nat) (rows : List RowL) (hr : RdRows w F A n c rows) (fr to : PosV) (b l0 l1 : Nat) (hl1 : l1 ≤ n) (hn : n ≤ 1000000) (hto : 0 ≤ to.col) :
    Calls Try.prog 47 [.agg (partV A n c fr to b).toArray, .agg [.int .i64 (l0 : Int), .int .i64 (l1 : Int)].toArray].toArray w (fun e w' => e = .returned (.agg (endR rows fr to l0 l1).enc.toArray) ∧ Ext [] w w') := by
  have hl := hr.len
  refine calls (n := 54) Try.func47 rfl Try.ntmps47 rfl ?_
  refine CW.sub (H' := SH w [] []) ?_ (Sub.refl _) (fun x hx => SH.start' _ _ hx)
  refine CW.seq (CW.region ?_)
  refine RW.boxA rfl rfl (fun g2 hg2 hf2 => ?_)
  refine RW.boxA rfl rfl (fun g3 hg3 hf3 => ?_)
  refine RW.allocA ag44 rfl (fun g4 hg4 hf4 => ?_)
  refine RW.nil (EX.seq (CW.seq (CW.seq (CW.region ?_))))
  refine RW.ixArrB (q := 1) Try.underlying28 ar28 rfl rfl rfl (by rfl) (by omega) ?_
  refine RW.loadB1 sc3 rfl rfl (by first | exact Has.head | exact Has.tail Has.head | exact Has.tail (Has.tail Has.head) | exact Has.tail (Has.tail (Has.tail Has.head)) | exact Has.tail (Has.tail (Has.tail (Has.tail Has.head))) | exact Has.tail (Has.tail (Has.tail (Has.tail (Has.tail Has.head)))) | exact Has.tail (Has.tail (Has.tail (Has.tail (Has.tail (Has.tail Has.head)))))) rfl ?_
  refine RW.sub_ rfl rfl rfl (wrap64 (by omega) (by omega)) ?_
  refine RW.assign rfl rfl ?_
  refine RW.nil (EX.seq (CW.block ?_))
  -- mq: loop
  refine CW.loop (ι := Nat) (fun k => [(5, .int .i64 ((k : Int) - 1)), (2, .pointer (some ⟨g2, 0, none⟩)), (3, .pointer (some ⟨g3, 0, none⟩)), (4, .pointer (some ⟨g4, 0, none⟩))]) (fun _ => SH w [] [blk g4 [.int .i64 0, .int .i64 0] 44, blk g3 [.int .i64 (l0 : Int), .int .i64 (l1 : Int)] 28, blk g2 (partV A n c fr to b) 81]) (fun k => k ≤ l1 ∧ endR rows fr to l0 l1 = endR rows fr to l0 k) (fun k => k) ?_ ?_
  · exact fun w hw => ⟨l1, ⟨Nat.le_refl _, rfl⟩, (by repeat (first | exact Sub.nil | refine Sub.cons (by rfl) ?_)), hw⟩
  · rintro k ⟨hk, hend⟩
    refine CW.seq (CW.seq (CW.region ?_))
    refine RW.move rfl rfl ?_
    refine RW.ixArrB (q := 0) Try.underlying28 ar28 rfl rfl rfl (by rfl) (by omega) ?_
    refine RW.loadB1 sc3 rfl rfl (by first | exact Has.head | exact Has.tail Has.head | exact Has.tail (Has.tail Has.head) | exact Has.tail (Has.tail (Has.tail Has.head)) | exact Has.tail (Has.tail (Has.tail (Has.tail Has.head))) | exact Has.tail (Has.tail (Has.tail (Has.tail (Has.tail Has.head)))) | exact Has.tail (Has.tail (Has.tail (Has.tail (Has.tail (Has.tail Has.head)))))) rfl ?_
    refine RW.geq rfl rfl rfl ?_
    refine RW.nil (EX.seq ?_)
    -- mq: cond
    first | refine CW.condD rfl (fun hge => ?_) (fun hge => ?_) | refine CW.cond rfl (fun hge => ?_) (fun hge => ?_)
    · skip
      obtain ⟨k', rfl⟩ : ∃ k', k = k' + 1 := ⟨k - 1, by omega⟩
      rw [show (((k' + 1 : Nat) : Int) - 1) = (k' : Int) by omega]
      obtain ⟨row, hrow⟩ : ∃ row, rows[k']? = some row := ⟨rows[k']'(by omega), List.getElem?_eq_getElem _⟩
      obtain ⟨ad, B, m, d, hA, _, hcell, hrd⟩ := hr.at_ hrow
      have hm := hrd.len
      have hmx := rd_max hrd
      simp only [maxLen] at hmx
      have hca : cellsAt rows k' = row.1 := by unfold cellsAt; rw [hrow]; rfl
      obtain ⟨hB0, hB1⟩ := inB_bd (k := k') (len := row.1.length) hto
      have hA0 := inA_bd fr k'
      rw [endR, if_neg (by omega), hca] at hend
      refine CW.skip (EX.seq (CW.seq (CW.block (CW.seq ?_))))
      -- mq: region
      refine CW.region ?_
      refine RW.loadBA ag81 rfl rfl (by first | exact Has.head | exact Has.tail Has.head | exact Has.tail (Has.tail Has.head) | exact Has.tail (Has.tail (Has.tail Has.head)) | exact Has.tail (Has.tail (Has.tail (Has.tail Has.head))) | exact Has.tail (Has.tail (Has.tail (Has.tail (Has.tail Has.head)))) | exact Has.tail (Has.tail (Has.tail (Has.tail (Has.tail (Has.tail Has.head)))))) rfl rfl ?_
      refine RW.move rfl rfl ?_
      -- mq: at
      refine RW.call rfl ca48 rfl (fun w' hw' => within_c w' F A n c rows (hr.ext hw'.ext (by simp)) fr to b k' row hrow) ?_
      refine RW.move rfl rfl ?_
      refine RW.extract rfl rfl rfl ?_
      refine RW.extract rfl rfl rfl ?_
      refine RW.assign rfl rfl ?_
      refine RW.assign rfl rfl ?_
      refine RW.nil (EX.seq (CW.seq (CW.region ?_)))
      refine RW.move rfl rfl ?_
      refine RW.sub_ rfl rfl rfl (wrap64 (by omega) (by omega)) ?_
      refine RW.assign rfl rfl ?_
      refine RW.nil (EX.seq (CW.block ?_))
      -- mq: loop
      refine CW.loop (ι := Nat) (fun x => [(8, .int .i64 ((x : Int) - 1)), (2, .pointer (some ⟨g2, 0, none⟩)), (3, .pointer (some ⟨g3, 0, none⟩)), (4, .pointer (some ⟨g4, 0, none⟩)), (5, .int .i64 (k' : Int)), (6, .int .i64 (inA fr k'))]) (fun _ => SH w [] [blk g4 [.int .i64 0, .int .i64 0] 44, blk g3 [.int .i64 (l0 : Int), .int .i64 (l1 : Int)] 28, blk g2 (partV A n c fr to b) 81]) (fun x => x ≤ m ∧ lastX row.1 (inA fr k').toNat (inB to k' row.1.length).toNat = lastX row.1 (inA fr k').toNat x) (fun x => x) ?_ ?_
      · exact fun w hw => ⟨(inB to k' row.1.length).toNat, ⟨by omega, rfl⟩, Sub.cons (by rw [show (((inB to k' row.1.length).toNat : Nat) : Int) = inB to k' row.1.length by omega]; rfl) (by repeat (first | exact Sub.nil | refine Sub.cons (by rfl) ?_)), hw⟩
      · rintro x ⟨hx, hlx⟩
        refine CW.seq (CW.seq (CW.region ?_))
        refine RW.move rfl rfl ?_
        refine RW.move rfl rfl ?_
        refine RW.geq rfl rfl rfl ?_
        refine RW.nil (EX.seq ?_)
        -- mq: cond
        first | refine CW.condD rfl (fun hxa => ?_) (fun hxa => ?_) | refine CW.cond rfl (fun hxa => ?_) (fun hxa => ?_)
        · skip
          obtain ⟨x', rfl⟩ : ∃ x', x = x' + 1 := ⟨x - 1, by omega⟩
          rw [show (((x' + 1 : Nat) : Int) - 1) = (x' : Int) by omega]
          obtain ⟨y, hy⟩ : ∃ y, row.1[x']? = some y := ⟨row.1[x']'(by omega), List.getElem?_eq_getElem _⟩
          obtain ⟨bd, hB, _, hyc⟩ := hrd.at_ hy
          rw [lastX, if_neg (by omega), hy] at hlx
          refine CW.skip (EX.seq (CW.seq (CW.block (CW.seq (CW.region ?_)))))
          refine RW.fieldB fl81x0 rfl rfl ?_
          refine RW.loadB1 sc22 rfl rfl (by first | exact Has.head | exact Has.tail Has.head | exact Has.tail (Has.tail Has.head) | exact Has.tail (Has.tail (Has.tail Has.head)) | exact Has.tail (Has.tail (Has.tail (Has.tail Has.head))) | exact Has.tail (Has.tail (Has.tail (Has.tail (Has.tail Has.head)))) | exact Has.tail (Has.tail (Has.tail (Has.tail (Has.tail (Has.tail Has.head)))))) rfl ?_
          refine RW.move rfl rfl ?_
          refine RW.ixAddr (q := k') sl22 rfl rfl rfl (by first | rfl | assumption) (by omega) (by omega) ?_
          refine RW.fieldP fl31x0 rfl rfl ?_
          refine RW.load1 sc29 rfl rfl (fun w' hw' => hw'.base_cell (hcell 0 _ rfl) (by simp)) ?_
          refine RW.move rfl rfl ?_
          refine RW.ixAddr (q := x') sl29 rfl rfl rfl (by first | rfl | assumption) (by omega) (by omega) ?_
          refine RW.loadA ag37 rfl rfl (rfl) (fun w' hw' j u hj => hw'.base_cell (hyc j u hj) (by simp)) ?_
          refine RW.allocA ag37 rfl (fun g9 hg9 hf9 => ?_)
          refine RW.storeA ag37 rfl rfl (by first | exact Upd.head | exact Upd.tail Upd.head | exact Upd.tail (Upd.tail Upd.head) | exact Upd.tail (Upd.tail (Upd.tail Upd.head)) | exact Upd.tail (Upd.tail (Upd.tail (Upd.tail Upd.head))) | exact Upd.tail (Upd.tail (Upd.tail (Upd.tail (Upd.tail Upd.head)))) | exact Upd.tail (Upd.tail (Upd.tail (Upd.tail (Upd.tail (Upd.tail Upd.head)))))) (by first | rfl | exact Enc.len _ _) (by repeat (first | exact Ones.nil | exact Enc.ones _ _ | refine Ones.cons rfl ?_)) (by first | exact Nat.le_of_ble_eq_true rfl | (simp only [Enc.len]; decide)) ?_
          refine RW.nil (EX.seq (CW.seq (CW.region ?_)))
          refine RW.fieldB fl37x0 rfl rfl ?_
          refine RW.loadB1 sc21 rfl rfl (by first | exact Has.head | exact Has.tail Has.head | exact Has.tail (Has.tail Has.head) | exact Has.tail (Has.tail (Has.tail Has.head)) | exact Has.tail (Has.tail (Has.tail (Has.tail Has.head))) | exact Has.tail (Has.tail (Has.tail (Has.tail (Has.tail Has.head)))) | exact Has.tail (Has.tail (Has.tail (Has.tail (Has.tail (Has.tail Has.head)))))) rfl ?_
          refine RW.neqI rfl rfl rfl ?_
          refine RW.move rfl rfl ?_
          -- mq: guard slot 44
          refine RW.casesB 44 rfl (fun h1 => ?_) (fun h1 => ?_)
          · skip
            refine RW.guardT rfl rfl h1 ?_
            refine RW.fieldB fl37x2 rfl rfl ?_
            refine RW.guardT rfl rfl h1 ?_
            refine RW.loadB1 sc3 rfl rfl (by first | exact Has.head | exact Has.tail Has.head | exact Has.tail (Has.tail Has.head) | exact Has.tail (Has.tail (Has.tail Has.head)) | exact Has.tail (Has.tail (Has.tail (Has.tail Has.head))) | exact Has.tail (Has.tail (Has.tail (Has.tail (Has.tail Has.head)))) | exact Has.tail (Has.tail (Has.tail (Has.tail (Has.tail (Has.tail Has.head)))))) rfl ?_
            refine RW.guardT rfl rfl h1 ?_
            refine RW.neqI rfl rfl rfl ?_
            refine RW.pickB rfl rfl h1 rfl ?_
            refine RW.nil (EX.seq ?_)
            -- mq: cond
            first | refine CW.condD rfl (fun h3 => ?_) (fun h3 => ?_) | refine CW.cond rfl (fun h3 => ?_) (fun h3 => ?_)
            · skip
              refine CW.seq (CW.region ?_)
              refine RW.move rfl rfl ?_
              refine RW.move rfl rfl ?_
              refine RW.add rfl rfl rfl (wrap64 (by omega) (by omega)) ?_
              refine RW.buildS bu44 rfl rfl rfl ?_
              refine RW.storeA ag44 rfl rfl (by first | exact Upd.head | exact Upd.tail Upd.head | exact Upd.tail (Upd.tail Upd.head) | exact Upd.tail (Upd.tail (Upd.tail Upd.head)) | exact Upd.tail (Upd.tail (Upd.tail (Upd.tail Upd.head))) | exact Upd.tail (Upd.tail (Upd.tail (Upd.tail (Upd.tail Upd.head)))) | exact Upd.tail (Upd.tail (Upd.tail (Upd.tail (Upd.tail (Upd.tail Upd.head)))))) (by first | rfl | exact Enc.len _ _) (by repeat (first | exact Ones.nil | exact Enc.ones _ _ | refine Ones.cons rfl ?_)) (by first | exact Nat.le_of_ble_eq_true rfl | (simp only [Enc.len]; decide)) ?_
              refine RW.nil (EX.seq (CW.ret (EX.bkR (EX.seqR (EX.lpR (EX.bkR (EX.bkR (EX.seqR (EX.lpR (EX.bkR (EX.seqR ?_)))))))))))
              refine EX.fin1' Try.results47 (RV.cellA ag44 rfl (by first | exact Has.head | exact Has.tail Has.head | exact Has.tail (Has.tail Has.head) | exact Has.tail (Has.tail (Has.tail Has.head)) | exact Has.tail (Has.tail (Has.tail (Has.tail Has.head))) | exact Has.tail (Has.tail (Has.tail (Has.tail (Has.tail Has.head)))) | exact Has.tail (Has.tail (Has.tail (Has.tail (Has.tail (Has.tail Has.head)))))) rfl rfl) (fun wz hw => ?_)
              -- mq: done
              have hw1 : wrC y = true := by unfold wrC; rw [Bool.and_eq_true]; exact ⟨h1, decide_eq_true h3⟩
              rw [show ((some y).map wrC).getD false = wrC y from rfl, hw1, if_pos rfl] at hlx
              rw [hlx] at hend
              exact ⟨by rw [hend]; rfl, hw.ext⟩
            · skip
              refine CW.skip (EX.bkN (EX.seq (CW.region ?_)))
              refine RW.move rfl rfl ?_
              refine RW.sub_ rfl rfl rfl (wrap64 (by omega) (by omega)) ?_
              refine RW.assign rfl rfl ?_
              refine RW.nil ?_
              -- mq: loopend
              have hw1 : wrC y = false := by unfold wrC; rw [decide_eq_false h3, Bool.and_false]
              rw [show ((some y).map wrC).getD false = wrC y from rfl, hw1, if_neg (by decide)] at hlx
              exact EX.lpN x' ⟨by omega, hlx⟩ (by omega) (by repeat (first | exact Sub.nil | refine Sub.cons (by rfl) ?_)) (fun w' hw' => hw'.rem Rem.head)
          · skip
            refine RW.guardF rfl rfl rfl h1 ?_
            refine RW.guardF rfl rfl rfl h1 ?_
            refine RW.guardF rfl rfl rfl h1 ?_
            refine RW.pickC rfl rfl h1 rfl ?_
            refine RW.nil (EX.seq ?_)
            -- mq: cond
            refine CW.condF rfl (rfl) ?_
            refine CW.skip (EX.bkN (EX.seq (CW.region ?_)))
            refine RW.move rfl rfl ?_
            refine RW.sub_ rfl rfl rfl (wrap64 (by omega) (by omega)) ?_
            refine RW.assign rfl rfl ?_
            refine RW.nil ?_
            -- mq: loopend
            have hw1 : wrC y = false := by unfold wrC; rw [h1, Bool.false_and]
            rw [show ((some y).map wrC).getD false = wrC y from rfl, hw1, if_neg (by decide)] at hlx
            exact EX.lpN x' ⟨by omega, hlx⟩ (by omega) (by repeat (first | exact Sub.nil | refine Sub.cons (by rfl) ?_)) (fun w' hw' => hw'.rem Rem.head)
        · skip
          refine CW.exit (EX.seqE (EX.lpE (EX.bkE (EX.bkN (EX.seq (CW.region ?_))))))
          refine RW.move rfl rfl ?_
          refine RW.sub_ rfl rfl rfl (wrap64 (by omega) (by omega)) ?_
          refine RW.assign rfl rfl ?_
          refine RW.nil ?_
          -- mq: loopend
          rw [lastX_lo x (by omega)] at hlx
          rw [hlx] at hend
          exact EX.lpN k' ⟨by omega, hend⟩ (by omega) (by repeat (first | exact Sub.nil | refine Sub.cons (by rfl) ?_)) (fun w' hw' => hw')
    · skip
      refine CW.exit (EX.seqE (EX.lpE (EX.bkE (EX.seq (CW.seq (CW.region ?_))))))
      refine RW.buildS bu44 rfl rfl rfl ?_
      refine RW.storeA ag44 rfl rfl (by first | exact Upd.head | exact Upd.tail Upd.head | exact Upd.tail (Upd.tail Upd.head) | exact Upd.tail (Upd.tail (Upd.tail Upd.head)) | exact Upd.tail (Upd.tail (Upd.tail (Upd.tail Upd.head))) | exact Upd.tail (Upd.tail (Upd.tail (Upd.tail (Upd.tail Upd.head)))) | exact Upd.tail (Upd.tail (Upd.tail (Upd.tail (Upd.tail (Upd.tail Upd.head)))))) (by first | rfl | exact Enc.len _ _) (by repeat (first | exact Ones.nil | exact Enc.ones _ _ | refine Ones.cons rfl ?_)) (by first | exact Nat.le_of_ble_eq_true rfl | (simp only [Enc.len]; decide)) ?_
      refine RW.nil (EX.seq (CW.ret ?_))
      refine EX.fin1' Try.results47 (RV.cellA ag44 rfl (by first | exact Has.head | exact Has.tail Has.head | exact Has.tail (Has.tail Has.head) | exact Has.tail (Has.tail (Has.tail Has.head)) | exact Has.tail (Has.tail (Has.tail (Has.tail Has.head))) | exact Has.tail (Has.tail (Has.tail (Has.tail (Has.tail Has.head)))) | exact Has.tail (Has.tail (Has.tail (Has.tail (Has.tail (Has.tail Has.head)))))) rfl rfl) (fun wz hw => ?_)
      -- mq: done
      rw [endR_lo rows fr to l0 k (by omega)] at hend
      exact ⟨by rw [hend]; rfl, hw.ext⟩
end Go.Proofs.Ytjmmikdbhhomiaa.Mq
