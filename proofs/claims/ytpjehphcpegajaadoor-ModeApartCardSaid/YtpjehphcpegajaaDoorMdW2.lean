/- walk: ModeApart -/
import Derived.Test.YtpjehphcpegajaaDoorMdW
import Derived.Test.YtpjehphcpegajaaDoorDrawU
namespace Go.Proofs.YtpjehphcpegajaaDoor.Mq
open Go Go.RowKit Go.Proofs

theorem cell_one {w : World} {g : Nat} {v : Value} (h : w.cell? ⟨g, 0, none⟩ = some v) (j : Nat) (u : Value) (hj : [v][j]? = some u) : w.cell? ((⟨g, 0, none⟩ : Addr).add j) = some u := by
  cases j with
  | zero => simp only [List.getElem?_cons_zero, Option.some.injEq] at hj; subst hj; simpa [Addr.add] using h
  | succ j => simp at hj
theorem heq (a b : Nat) : eqv [.int .u32 (a : Int)] [.int .u32 (b : Int)] = decide (a = b) := by
  simp [eqv, veq]; omega
theorem apart_c (w : World) (hg : Gl w) (F G : Nat → Prop) (A B : Option Addr) (m c k d : Nat) (l r : List OpV) (hr : Rd EOp w F A m c l) (hs : Rd EOp w G B k d r) (hm : m ≤ 140737488351232) (hk : k ≤ 140737488351232) (hwl : ∀ o ∈ l, -9223372036854775808 ≤ o.n ∧ o.n ≤ 9223372036854775807) (hwr : ∀ o ∈ r, -9223372036854775808 ≤ o.n ∧ o.n ≤ 9223372036854775807) (o : OpV) :
    Calls Tryd.prog 5 [.slice A m c, .slice B k d, .agg o.enc.toArray].toArray w (fun e w' => e = .returned (.bool true) ∧ Ext [] w w') := by
  have hl := hr.len
  have hl2 := hs.len
  have hb0 : newB < 262144 := by decide
  refine calls (n := 125) Tryd.func5 rfl Tryd.ntmps5 rfl ?_
  refine CW.sub (H' := SH w [] []) ?_ (Sub.refl _) (fun x hx => SH.start' _ _ hx)
  refine CW.seq (CW.region ?_)
  refine RW.boxA rfl rfl (fun g5 hg5 hf5 => ?_)
  refine RW.assign rfl rfl ?_
  refine RW.nil (EX.seq (CW.seq (CW.seq (CW.region ?_))))
  refine RW.move rfl rfl ?_
  refine RW.lenSl Tryd.underlying22 rfl rfl ?_
  refine RW.gtr rfl rfl rfl ?_
  refine RW.move rfl rfl ?_
  -- mq: guard slot 15
  refine RW.casesB 15 rfl (fun h1 => ?_) (fun h1 => ?_)
  · skip
    have h1p := of_decide_eq_true h1
    refine RW.guardF rfl rfl rfl h1 ?_
    refine RW.guardF rfl rfl rfl h1 ?_
    refine RW.guardF rfl rfl rfl h1 ?_
    refine RW.pickB rfl rfl h1 rfl ?_
    refine RW.move rfl rfl ?_
    refine RW.guardF rfl rfl rfl rfl ?_
    refine RW.guardF rfl rfl rfl rfl ?_
    refine RW.pickB rfl rfl rfl rfl ?_
    refine RW.nil (EX.seq ?_)
    -- mq: cond
    -- mq: cond
    refine CW.condT rfl (rfl) ?_
    refine CW.seq (CW.region ?_)
    -- mq: op 0: ('Op.call', ('Call.mk', ('Callee.value', ('Operand.func', '7')), ('arr',), ('arr',))) -> slot 24 ("law.go:94")
    refine RW.call rfl ca7 rfl (fun w' hw' => awake_c w' (hg.ext hw'.ext)) ?_
    refine RW.assign rfl rfl ?_
    refine RW.nil (EX.seq (CW.ret (EX.seqR ?_)))
    refine EX.fin1 Tryd.results5 rfl (fun wz hw => ?_)
    -- mq: done
    exact ⟨rfl, hw.ext⟩
  · skip
    have h1p := of_decide_eq_false h1
    refine RW.guardT rfl rfl h1 ?_
    refine RW.move rfl rfl ?_
    refine RW.guardT rfl rfl h1 ?_
    refine RW.lenSl Tryd.underlying22 rfl rfl ?_
    refine RW.guardT rfl rfl h1 ?_
    refine RW.gtr rfl rfl rfl ?_
    refine RW.pickC rfl rfl h1 rfl ?_
    refine RW.move rfl rfl ?_
    -- mq: guard slot 20
    refine RW.casesB 20 rfl (fun h2 => ?_) (fun h2 => ?_)
    · skip
      have h2p := of_decide_eq_true h2
      refine RW.guardF rfl rfl rfl h2 ?_
      refine RW.guardF rfl rfl rfl h2 ?_
      refine RW.pickB rfl rfl h2 rfl ?_
      refine RW.nil (EX.seq ?_)
      -- mq: cond
      refine CW.condT rfl (rfl) ?_
      refine CW.seq (CW.region ?_)
      -- mq: op 0: ('Op.call', ('Call.mk', ('Callee.value', ('Operand.func', '7')), ('arr',), ('arr',))) -> slot 24 ("law.go:94")
      refine RW.call rfl ca7 rfl (fun w' hw' => awake_c w' (hg.ext hw'.ext)) ?_
      refine RW.assign rfl rfl ?_
      refine RW.nil (EX.seq (CW.ret (EX.seqR ?_)))
      refine EX.fin1 Tryd.results5 rfl (fun wz hw => ?_)
      -- mq: done
      exact ⟨rfl, hw.ext⟩
    · skip
      have h2p := of_decide_eq_false h2
      refine RW.guardT rfl rfl h2 ?_
      -- mq: op 9: ('Op.call', ('Call.mk', ('Callee.value', ('Operand.func', '7')), ('arr',), ('arr',))) -> slot 21 ("law.go:93")
      refine RW.call rfl ca7 rfl (fun w' hw' => awake_c w' (hg.ext hw'.ext)) ?_
      refine RW.guardT rfl rfl h2 ?_
      refine RW.not_ rfl rfl ?_
      refine RW.pickC rfl rfl h2 rfl ?_
      refine RW.nil (EX.seq ?_)
      -- mq: cond
      refine CW.condF rfl (rfl) ?_
      refine CW.skip (EX.seq (CW.seq (CW.region ?_)))
      -- mq: op 0: ('Op.call', ('Call.mk', ('Callee.value', ('Operand.func', '8')), ('arr',), ('arr',))) -> slot 25 ("law.go:96")
      refine RW.call rfl ca8 rfl (fun w' _ => new_c w') ?_
      refine RW.call rfl ca8 rfl (fun w' _ => new_c w') ?_
      refine RW.allocA ag26 rfl (fun g7 hg7 hf7 => ?_)
      refine RW.allocA ag26 rfl (fun g8 hg8 hf8 => ?_)
      refine RW.storeA ag26 rfl rfl (by first | exact Upd.head | exact Upd.tail Upd.head | exact Upd.tail (Upd.tail Upd.head) | exact Upd.tail (Upd.tail (Upd.tail Upd.head)) | exact Upd.tail (Upd.tail (Upd.tail (Upd.tail Upd.head))) | exact Upd.tail (Upd.tail (Upd.tail (Upd.tail (Upd.tail Upd.head)))) | exact Upd.tail (Upd.tail (Upd.tail (Upd.tail (Upd.tail (Upd.tail Upd.head)))))) (by first | rfl | exact Enc.len _ _) (by repeat (first | exact Ones.nil | exact Enc.ones _ _ | refine Ones.cons rfl ?_)) (by first | exact Nat.le_of_ble_eq_true rfl | (simp only [Enc.len]; decide)) ?_
      refine RW.storeA ag26 rfl rfl (by first | exact Upd.head | exact Upd.tail Upd.head | exact Upd.tail (Upd.tail Upd.head) | exact Upd.tail (Upd.tail (Upd.tail Upd.head)) | exact Upd.tail (Upd.tail (Upd.tail (Upd.tail Upd.head))) | exact Upd.tail (Upd.tail (Upd.tail (Upd.tail (Upd.tail Upd.head)))) | exact Upd.tail (Upd.tail (Upd.tail (Upd.tail (Upd.tail (Upd.tail Upd.head)))))) (by first | rfl | exact Enc.len _ _) (by repeat (first | exact Ones.nil | exact Enc.ones _ _ | refine Ones.cons rfl ?_)) (by first | exact Nat.le_of_ble_eq_true rfl | (simp only [Enc.len]; decide)) ?_
      refine RW.nil (EX.seq (CW.seq (CW.seq (CW.region ?_))))
      refine RW.assign rfl rfl ?_
      refine RW.nil (EX.seq (CW.block ?_))
      -- mq: loop
      refine CW.loop (ι := Nat) (fun i => [(0, .slice A m c), (1, .slice B k d), (5, .pointer (some ⟨g5, 0, none⟩)), (6, .bool false), (7, .pointer (some ⟨g7, 0, none⟩)), (8, .pointer (some ⟨g8, 0, none⟩)), (9, .int .i64 (i : Int))]) (fun i => SH w [] [blk g8 [.int .u32 (newB : Int)] 26, blk g7 [.int .u32 (playF newB (l.take i) : Int)] 26, blk g5 o.enc 33]) (fun i => i ≤ m) (fun i => m - i) ?_ ?_
      · exact fun w hw => ⟨0, Nat.zero_le _, (by repeat (first | exact Sub.nil | refine Sub.cons (by rfl) ?_)), hw⟩
      · rintro i hi
        have hbi := playF_lt newB hb0 (l.take i)
        refine CW.seq (CW.seq (CW.region ?_))
        refine RW.move rfl rfl ?_
        refine RW.move rfl rfl ?_
        refine RW.lenSl Tryd.underlying22 rfl rfl ?_
        refine RW.lss rfl rfl rfl ?_
        refine RW.nil (EX.seq ?_)
        -- mq: cond
        first | refine CW.condD rfl (fun hlt1 => ?_) (fun hlt1 => ?_) | refine CW.cond rfl (fun hlt1 => ?_) (fun hlt1 => ?_)
        · skip
          obtain ⟨q, ho⟩ : ∃ q, l[i]? = some q := ⟨l[i]'(by omega), List.getElem?_eq_getElem _⟩
          have hnx := playF_snoc (b := newB) ho
          obtain ⟨ad, hA, hFb, hcell⟩ := hr.at_ ho
          refine CW.skip (EX.seq (CW.seq (CW.block ?_)))
          -- mq: region
          refine CW.drawS [true, true, true, true, true, true, true, true, true, true, true, true, true, true, true, true, false, false] 0 (SH w [] [blk g8 [.int .u32 (newB : Int)] 26, blk g7 [.int .u32 (playF newB (l.take i) : Int)] 26, blk g5 o.enc 33]) mixed (by kernel_rfl) (fun _ hw => hw.drew) (fun _ h => by first | exact h | (have h1 := h.rem Rem.head; first | exact h1 | (have h2 := h1.rem Rem.head; first | exact h2 | (have h3 := h2.rem Rem.head; exact h3)))) (by repeat (first | exact NoP.fin | exact NoP.jn | refine NoP.sq ?_ | refine NoP.bk ?_ | refine NoP.lp ?_)) ?_
          refine QuW.cons rfl (fun wq hq => (RW.loadA ag26 rfl rfl rfl (fun w1 e1 j u hj => by subst e1; exact hq.blk_at (sz := 1) (by first | exact Has.head | exact Has.tail Has.head | exact Has.tail (Has.tail Has.head) | exact Has.tail (Has.tail (Has.tail Has.head)) | exact Has.tail (Has.tail (Has.tail (Has.tail Has.head))) | exact Has.tail (Has.tail (Has.tail (Has.tail (Has.tail Has.head)))) | exact Has.tail (Has.tail (Has.tail (Has.tail (Has.tail (Has.tail Has.head)))))) rfl j u hj) RW.jn)) ?_
          refine QuW.cons rfl (fun wq hq => (RW.move rfl rfl RW.jn)) ?_
          refine QuW.cons rfl (fun wq hq => (RW.move rfl rfl RW.jn)) ?_
          refine QuW.cons rfl (fun wq hq => (RW.ixAddr (q := i) sl22 rfl rfl rfl (by first | rfl | assumption) (by omega) (by omega) RW.jn)) ?_
          refine QuW.cons rfl (fun wq hq => (RW.fieldP fl33x0 rfl rfl RW.jn)) ?_
          refine QuW.cons rfl (fun wq hq => (RW.load1 sc4 rfl rfl (fun w1 e1 => by subst e1; exact (hq.base_cell (hcell 0 _ rfl) (by simp))) RW.jn)) ?_
          refine QuW.cons rfl (fun wq hq => (RW.move rfl rfl RW.jn)) ?_
          refine QuW.cons rfl (fun wq hq => (RW.move rfl rfl RW.jn)) ?_
          refine QuW.cons rfl (fun wq hq => (RW.ixAddr (q := i) sl22 rfl rfl rfl (by first | rfl | assumption) (by omega) (by omega) RW.jn)) ?_
          refine QuW.cons rfl (fun wq hq => (RW.fieldP fl33x1 rfl rfl RW.jn)) ?_
          refine QuW.cons rfl (fun wq hq => (RW.load1 sc3 rfl rfl (fun w1 e1 => by subst e1; exact (hq.base_cell (hcell 1 _ rfl) (by simp))) RW.jn)) ?_
          refine QuW.cons rfl (fun wq hq => (RW.move rfl rfl RW.jn)) ?_
          refine QuW.cons rfl (fun wq hq => (RW.move rfl rfl RW.jn)) ?_
          refine QuW.cons rfl (fun wq hq => (RW.ixAddr (q := i) sl22 rfl rfl rfl (by first | rfl | assumption) (by omega) (by omega) RW.jn)) ?_
          refine QuW.cons rfl (fun wq hq => (RW.fieldP fl33x2 rfl rfl RW.jn)) ?_
          refine QuW.cons rfl (fun wq hq => (RW.load1 sc4 rfl rfl (fun w1 e1 => by subst e1; exact (hq.base_cell (hcell 2 _ rfl) (by simp))) RW.jn)) ?_
          refine QuW.skip ?_
          refine QuW.skip ?_
          refine QuW.nil ?_
          refine SpW.hard ?_
          refine RW.call rfl ca10 rfl (fun w' _ => with_c w' _ (by omega) q.p q.n q.on) ?_
          refine RW.storeA ag26 rfl rfl (by first | exact Upd.head | exact Upd.tail Upd.head | exact Upd.tail (Upd.tail Upd.head) | exact Upd.tail (Upd.tail (Upd.tail Upd.head)) | exact Upd.tail (Upd.tail (Upd.tail (Upd.tail Upd.head))) | exact Upd.tail (Upd.tail (Upd.tail (Upd.tail (Upd.tail Upd.head)))) | exact Upd.tail (Upd.tail (Upd.tail (Upd.tail (Upd.tail (Upd.tail Upd.head)))))) (by first | rfl | exact Enc.len _ _) (by repeat (first | exact Ones.nil | exact Enc.ones _ _ | refine Ones.cons rfl ?_)) (by first | exact Nat.le_of_ble_eq_true rfl | (simp only [Enc.len]; decide)) ?_
          refine RW.nil (EX.bkN (EX.seq (CW.region ?_)))
          refine RW.move rfl rfl ?_
          refine RW.add rfl rfl rfl (wrap64 (by omega) (by omega)) ?_
          refine RW.assign rfl rfl ?_
          refine RW.nil ?_
          -- mq: loopend
          refine EX.lpN (i + 1) (by omega) (by omega) (by repeat (first | exact Sub.nil | refine Sub.cons (by rfl) ?_)) (fun w' hw' => ?_)
          rw [hnx]
          exact hw'
        · skip
          have him : m = i := by omega
          subst him
          rw [List.take_of_length_le (by omega)] at hbi ⊢
          refine CW.exit (EX.seqE (EX.lpE (EX.bkE (EX.seq (CW.seq (CW.seq (CW.region ?_)))))))
          refine RW.assign rfl rfl ?_
          refine RW.nil (EX.seq (CW.block ?_))
          -- mq: loop
          refine CW.loop (ι := Nat) (fun i => [(0, .slice A m c), (1, .slice B k d), (5, .pointer (some ⟨g5, 0, none⟩)), (6, .bool false), (7, .pointer (some ⟨g7, 0, none⟩)), (8, .pointer (some ⟨g8, 0, none⟩)), (10, .int .i64 (i : Int))]) (fun i => SH w [] [blk g8 [.int .u32 (playF newB (r.take i) : Int)] 26, blk g7 [.int .u32 (playF newB l : Int)] 26, blk g5 o.enc 33]) (fun i => i ≤ k) (fun i => k - i) ?_ ?_
          · exact fun w hw => ⟨0, Nat.zero_le _, (by repeat (first | exact Sub.nil | refine Sub.cons (by rfl) ?_)), hw⟩
          · rintro i hi
            have hbi := playF_lt newB hb0 (r.take i)
            refine CW.seq (CW.seq (CW.region ?_))
            refine RW.move rfl rfl ?_
            refine RW.move rfl rfl ?_
            refine RW.lenSl Tryd.underlying22 rfl rfl ?_
            refine RW.lss rfl rfl rfl ?_
            refine RW.nil (EX.seq ?_)
            -- mq: cond
            first | refine CW.condD rfl (fun hlt2 => ?_) (fun hlt2 => ?_) | refine CW.cond rfl (fun hlt2 => ?_) (fun hlt2 => ?_)
            · skip
              obtain ⟨q, ho⟩ : ∃ q, r[i]? = some q := ⟨r[i]'(by omega), List.getElem?_eq_getElem _⟩
              have hnx := playF_snoc (b := newB) ho
              obtain ⟨ad, hA, hFb, hcell⟩ := hs.at_ ho
              refine CW.skip (EX.seq (CW.seq (CW.block ?_)))
              -- mq: region
              refine CW.drawS [true, true, true, true, true, true, true, true, true, true, true, true, true, true, true, true, false, false] 0 (SH w [] [blk g8 [.int .u32 (playF newB (r.take i) : Int)] 26, blk g7 [.int .u32 (playF newB l : Int)] 26, blk g5 o.enc 33]) mixed (by kernel_rfl) (fun _ hw => hw.drew) (fun _ h => by first | exact h | (have h1 := h.rem Rem.head; first | exact h1 | (have h2 := h1.rem Rem.head; first | exact h2 | (have h3 := h2.rem Rem.head; exact h3)))) (by repeat (first | exact NoP.fin | exact NoP.jn | refine NoP.sq ?_ | refine NoP.bk ?_ | refine NoP.lp ?_)) ?_
              refine QuW.cons rfl (fun wq hq => (RW.loadA ag26 rfl rfl rfl (fun w1 e1 j u hj => by subst e1; exact hq.blk_at (sz := 1) (by first | exact Has.head | exact Has.tail Has.head | exact Has.tail (Has.tail Has.head) | exact Has.tail (Has.tail (Has.tail Has.head)) | exact Has.tail (Has.tail (Has.tail (Has.tail Has.head))) | exact Has.tail (Has.tail (Has.tail (Has.tail (Has.tail Has.head)))) | exact Has.tail (Has.tail (Has.tail (Has.tail (Has.tail (Has.tail Has.head)))))) rfl j u hj) RW.jn)) ?_
              refine QuW.cons rfl (fun wq hq => (RW.move rfl rfl RW.jn)) ?_
              refine QuW.cons rfl (fun wq hq => (RW.move rfl rfl RW.jn)) ?_
              refine QuW.cons rfl (fun wq hq => (RW.ixAddr (q := i) sl22 rfl rfl rfl (by first | rfl | assumption) (by omega) (by omega) RW.jn)) ?_
              refine QuW.cons rfl (fun wq hq => (RW.fieldP fl33x0 rfl rfl RW.jn)) ?_
              refine QuW.cons rfl (fun wq hq => (RW.load1 sc4 rfl rfl (fun w1 e1 => by subst e1; exact (hq.base_cell (hcell 0 _ rfl) (by simp))) RW.jn)) ?_
              refine QuW.cons rfl (fun wq hq => (RW.move rfl rfl RW.jn)) ?_
              refine QuW.cons rfl (fun wq hq => (RW.move rfl rfl RW.jn)) ?_
              refine QuW.cons rfl (fun wq hq => (RW.ixAddr (q := i) sl22 rfl rfl rfl (by first | rfl | assumption) (by omega) (by omega) RW.jn)) ?_
              refine QuW.cons rfl (fun wq hq => (RW.fieldP fl33x1 rfl rfl RW.jn)) ?_
              refine QuW.cons rfl (fun wq hq => (RW.load1 sc3 rfl rfl (fun w1 e1 => by subst e1; exact (hq.base_cell (hcell 1 _ rfl) (by simp))) RW.jn)) ?_
              refine QuW.cons rfl (fun wq hq => (RW.move rfl rfl RW.jn)) ?_
              refine QuW.cons rfl (fun wq hq => (RW.move rfl rfl RW.jn)) ?_
              refine QuW.cons rfl (fun wq hq => (RW.ixAddr (q := i) sl22 rfl rfl rfl (by first | rfl | assumption) (by omega) (by omega) RW.jn)) ?_
              refine QuW.cons rfl (fun wq hq => (RW.fieldP fl33x2 rfl rfl RW.jn)) ?_
              refine QuW.cons rfl (fun wq hq => (RW.load1 sc4 rfl rfl (fun w1 e1 => by subst e1; exact (hq.base_cell (hcell 2 _ rfl) (by simp))) RW.jn)) ?_
              refine QuW.skip ?_
              refine QuW.skip ?_
              refine QuW.nil ?_
              refine SpW.hard ?_
              refine RW.call rfl ca10 rfl (fun w' _ => with_c w' _ (by omega) q.p q.n q.on) ?_
              refine RW.storeA ag26 rfl rfl (by first | exact Upd.head | exact Upd.tail Upd.head | exact Upd.tail (Upd.tail Upd.head) | exact Upd.tail (Upd.tail (Upd.tail Upd.head)) | exact Upd.tail (Upd.tail (Upd.tail (Upd.tail Upd.head))) | exact Upd.tail (Upd.tail (Upd.tail (Upd.tail (Upd.tail Upd.head)))) | exact Upd.tail (Upd.tail (Upd.tail (Upd.tail (Upd.tail (Upd.tail Upd.head)))))) (by first | rfl | exact Enc.len _ _) (by repeat (first | exact Ones.nil | exact Enc.ones _ _ | refine Ones.cons rfl ?_)) (by first | exact Nat.le_of_ble_eq_true rfl | (simp only [Enc.len]; decide)) ?_
              refine RW.nil (EX.bkN (EX.seq (CW.region ?_)))
              refine RW.move rfl rfl ?_
              refine RW.add rfl rfl rfl (wrap64 (by omega) (by omega)) ?_
              refine RW.assign rfl rfl ?_
              refine RW.nil ?_
              -- mq: loopend
              refine EX.lpN (i + 1) (by omega) (by omega) (by repeat (first | exact Sub.nil | refine Sub.cons (by rfl) ?_)) (fun w' hw' => ?_)
              rw [hnx]
              exact hw'
            · skip
              have him : k = i := by omega
              subst him
              rw [List.take_of_length_le (by omega)] at hbi ⊢
              have hbl := playF_lt newB hb0 l
              have hw1 := withF_18 hbl o.p o.n true
              have hw2 := withF_18 hw1 o.p o.n false
              refine CW.exit (EX.seqE (EX.lpE (EX.bkE (EX.seq (CW.seq ?_)))))
              -- mq: region
              refine CW.joinI (fun i : Nat => [(5, .pointer (some ⟨g5, 0, none⟩)), (6, .bool false), (7, .pointer (some ⟨g7, 0, none⟩)), (8, .pointer (some ⟨g8, 0, none⟩)), (11, .pointer (some ⟨i, 0, none⟩))]) (fun i => SH w [] [blk i [.int .u32 (withF (withF (playF newB l) o.p o.n true) o.p o.n false : Int)] 26, blk g8 [.int .u32 (playF newB r : Int)] 26, blk g7 [.int .u32 (playF newB l : Int)] 26, blk g5 o.enc 33]) (fun i => w.heap.size ≤ i) ?_ ?_
              · skip
                refine CW.drawU [0, 1, 2, 3, 4, 6, 7, 8, 9] 4 [[(5, false, []), (10, false, []), (11, false, []), (12, false, [])], [(5, false, []), (11, false, []), (10, false, []), (12, false, [])], [(11, false, []), (5, false, []), (10, false, []), (12, false, [])]] (Ch [blk g8 [.int .u32 (playF newB r : Int)] 26, blk g7 [.int .u32 (playF newB l : Int)] 26, blk g5 o.enc 33]) mixed (by kernel_rfl) (fun _ hw => hw.drew) (fun _ h => (by first | trivial | exact h | exact h.ch | exact (h.rem Rem.head).ch | exact ((h.rem Rem.head).rem Rem.head).ch | exact (((h.rem Rem.head).rem Rem.head).rem Rem.head).ch)) ?_
                refine QuP.cons rfl (fun wq hq => (RW.loadA ag26 rfl rfl rfl (fun w1 e1 j u hj => by subst e1; exact hq.blk_at (sz := 1) (by first | exact Has.head | exact Has.tail Has.head | exact Has.tail (Has.tail Has.head) | exact Has.tail (Has.tail (Has.tail Has.head)) | exact Has.tail (Has.tail (Has.tail (Has.tail Has.head))) | exact Has.tail (Has.tail (Has.tail (Has.tail (Has.tail Has.head)))) | exact Has.tail (Has.tail (Has.tail (Has.tail (Has.tail (Has.tail Has.head)))))) rfl j u hj) RW.jn)) ?_
                refine QuP.cons rfl (fun wq hq => (RW.fieldB fl33x0 rfl rfl RW.jn)) ?_
                refine QuP.cons rfl (fun wq hq => (RW.load1 sc4 rfl rfl (fun w1 e1 => by subst e1; exact hq.blk_cell (by first | exact Has.head | exact Has.tail Has.head | exact Has.tail (Has.tail Has.head) | exact Has.tail (Has.tail (Has.tail Has.head)) | exact Has.tail (Has.tail (Has.tail (Has.tail Has.head))) | exact Has.tail (Has.tail (Has.tail (Has.tail (Has.tail Has.head)))) | exact Has.tail (Has.tail (Has.tail (Has.tail (Has.tail (Has.tail Has.head)))))) rfl) RW.jn)) ?_
                refine QuP.cons rfl (fun wq hq => (RW.fieldB fl33x1 rfl rfl RW.jn)) ?_
                refine QuP.cons rfl (fun wq hq => (RW.load1 sc3 rfl rfl (fun w1 e1 => by subst e1; exact hq.blk_cell (by first | exact Has.head | exact Has.tail Has.head | exact Has.tail (Has.tail Has.head) | exact Has.tail (Has.tail (Has.tail Has.head)) | exact Has.tail (Has.tail (Has.tail (Has.tail Has.head))) | exact Has.tail (Has.tail (Has.tail (Has.tail (Has.tail Has.head)))) | exact Has.tail (Has.tail (Has.tail (Has.tail (Has.tail (Has.tail Has.head)))))) rfl) RW.jn)) ?_
                refine QuP.cons rfl (fun wq hq => (RW.fieldB fl33x0 rfl rfl RW.jn)) ?_
                refine QuP.cons rfl (fun wq hq => (RW.load1 sc4 rfl rfl (fun w1 e1 => by subst e1; exact hq.blk_cell (by first | exact Has.head | exact Has.tail Has.head | exact Has.tail (Has.tail Has.head) | exact Has.tail (Has.tail (Has.tail Has.head)) | exact Has.tail (Has.tail (Has.tail (Has.tail Has.head))) | exact Has.tail (Has.tail (Has.tail (Has.tail (Has.tail Has.head)))) | exact Has.tail (Has.tail (Has.tail (Has.tail (Has.tail (Has.tail Has.head)))))) rfl) RW.jn)) ?_
                refine QuP.cons rfl (fun wq hq => (RW.fieldB fl33x1 rfl rfl RW.jn)) ?_
                refine QuP.cons rfl (fun wq hq => (RW.load1 sc3 rfl rfl (fun w1 e1 => by subst e1; exact hq.blk_cell (by first | exact Has.head | exact Has.tail Has.head | exact Has.tail (Has.tail Has.head) | exact Has.tail (Has.tail (Has.tail Has.head)) | exact Has.tail (Has.tail (Has.tail (Has.tail Has.head))) | exact Has.tail (Has.tail (Has.tail (Has.tail (Has.tail Has.head)))) | exact Has.tail (Has.tail (Has.tail (Has.tail (Has.tail (Has.tail Has.head)))))) rfl) RW.jn)) ?_
                refine QuP.nil ?_
                -- mq: orders [5, 11]
                refine UW.step [_, _] rfl (List.forall_mem_cons.2 ⟨?_, List.forall_mem_cons.2 ⟨?_, by simp⟩⟩)
                · skip
                  refine RW.call rfl ca10 rfl (fun w' _ => with_c w' _ (by omega) o.p o.n true) ?_
                  refine RW.st (fun _ => True) (fun _ h => .inr (by first | trivial | exact h | exact h.ch | exact (h.rem Rem.head).ch | exact ((h.rem Rem.head).rem Rem.head).ch | exact (((h.rem Rem.head).rem Rem.head).rem Rem.head).ch)) (fun _ h => trivial) ?_
                  refine QuP.nil ?_
                  -- mq: orders [10, 11]
                  refine UW.step [_, _] rfl (List.forall_mem_cons.2 ⟨?_, List.forall_mem_cons.2 ⟨?_, by simp⟩⟩)
                  · skip
                    refine RW.call rfl ca10 rfl (fun w' _ => with_c w' _ (by omega) o.p o.n false) ?_
                    refine RW.st (fun _ => True) (fun _ h => .inr ⟨.inr (by first | trivial | exact h | exact h.ch | exact (h.rem Rem.head).ch | exact ((h.rem Rem.head).rem Rem.head).ch | exact (((h.rem Rem.head).rem Rem.head).rem Rem.head).ch), trivial⟩) (fun _ h => trivial) ?_
                    refine QuP.nil ?_
                    refine UW.step [_] rfl (List.forall_mem_cons.2 ⟨?_, by simp⟩)
                    refine RW.allocA ag26 rfl (fun g11 hg11 hf11 => ?_)
                    refine RW.st (fun _ => True) (fun _ h => .inr ⟨.inr ⟨.inr (by first | trivial | exact h | exact h.ch | exact (h.rem Rem.head).ch | exact ((h.rem Rem.head).rem Rem.head).ch | exact (((h.rem Rem.head).rem Rem.head).rem Rem.head).ch), trivial⟩, trivial⟩) (fun _ h => trivial) ?_
                    refine QuP.nil ?_
                    refine UW.step [_] rfl (List.forall_mem_cons.2 ⟨?_, by simp⟩)
                    refine RW.storeA ag26 rfl rfl (by first | exact Upd.head | exact Upd.tail Upd.head | exact Upd.tail (Upd.tail Upd.head) | exact Upd.tail (Upd.tail (Upd.tail Upd.head)) | exact Upd.tail (Upd.tail (Upd.tail (Upd.tail Upd.head))) | exact Upd.tail (Upd.tail (Upd.tail (Upd.tail (Upd.tail Upd.head)))) | exact Upd.tail (Upd.tail (Upd.tail (Upd.tail (Upd.tail (Upd.tail Upd.head)))))) (by first | rfl | exact Enc.len _ _) (by repeat (first | exact Ones.nil | exact Enc.ones _ _ | refine Ones.cons rfl ?_)) (by first | exact Nat.le_of_ble_eq_true rfl | (simp only [Enc.len]; decide)) ?_
                    refine RW.st (fun _ => True) (fun _ h => .inr ⟨.inr ⟨.inr ⟨.inr (by first | trivial | exact h | exact h.ch | exact (h.rem Rem.head).ch | exact ((h.rem Rem.head).rem Rem.head).ch | exact (((h.rem Rem.head).rem Rem.head).rem Rem.head).ch), trivial⟩, trivial⟩, trivial⟩) (fun _ h => trivial) ?_
                    refine QuP.nil ?_
                    refine UW.nil ?_
                    -- mq: joinend
                    exact EX.jnI g11 hg11 (by repeat (first | exact Sub.nil | refine Sub.cons (by rfl) ?_)) (fun w' hw' => hw')
                  · skip
                    refine RW.allocA ag26 rfl (fun g11 hg11 hf11 => ?_)
                    refine RW.st (fun _ => True) (fun _ h => .inr ⟨.inr (by first | trivial | exact h | exact h.ch | exact (h.rem Rem.head).ch | exact ((h.rem Rem.head).rem Rem.head).ch | exact (((h.rem Rem.head).rem Rem.head).rem Rem.head).ch), trivial⟩) (fun _ h => trivial) ?_
                    refine QuP.nil ?_
                    refine UW.step [_] rfl (List.forall_mem_cons.2 ⟨?_, by simp⟩)
                    refine RW.call rfl ca10 rfl (fun w' _ => with_c w' _ (by omega) o.p o.n false) ?_
                    refine RW.st (fun _ => True) (fun _ h => .inr ⟨.inr ⟨.inr (by first | trivial | exact h | exact h.ch | exact (h.rem Rem.head).ch | exact ((h.rem Rem.head).rem Rem.head).ch | exact (((h.rem Rem.head).rem Rem.head).rem Rem.head).ch), trivial⟩, trivial⟩) (fun _ h => trivial) ?_
                    refine QuP.nil ?_
                    refine UW.step [_] rfl (List.forall_mem_cons.2 ⟨?_, by simp⟩)
                    refine RW.storeA ag26 rfl rfl (by first | exact Upd.head | exact Upd.tail Upd.head | exact Upd.tail (Upd.tail Upd.head) | exact Upd.tail (Upd.tail (Upd.tail Upd.head)) | exact Upd.tail (Upd.tail (Upd.tail (Upd.tail Upd.head))) | exact Upd.tail (Upd.tail (Upd.tail (Upd.tail (Upd.tail Upd.head)))) | exact Upd.tail (Upd.tail (Upd.tail (Upd.tail (Upd.tail (Upd.tail Upd.head)))))) (by first | rfl | exact Enc.len _ _) (by repeat (first | exact Ones.nil | exact Enc.ones _ _ | refine Ones.cons rfl ?_)) (by first | exact Nat.le_of_ble_eq_true rfl | (simp only [Enc.len]; decide)) ?_
                    refine RW.st (fun _ => True) (fun _ h => .inr ⟨.inr ⟨.inr ⟨.inr (by first | trivial | exact h | exact h.ch | exact (h.rem Rem.head).ch | exact ((h.rem Rem.head).rem Rem.head).ch | exact (((h.rem Rem.head).rem Rem.head).rem Rem.head).ch), trivial⟩, trivial⟩, trivial⟩) (fun _ h => trivial) ?_
                    refine QuP.nil ?_
                    refine UW.nil ?_
                    -- mq: joinend
                    exact EX.jnI g11 hg11 (by repeat (first | exact Sub.nil | refine Sub.cons (by rfl) ?_)) (fun w' hw' => hw')
                · skip
                  refine RW.allocA ag26 rfl (fun g11 hg11 hf11 => ?_)
                  refine RW.st (fun _ => True) (fun _ h => .inr (by first | trivial | exact h | exact h.ch | exact (h.rem Rem.head).ch | exact ((h.rem Rem.head).rem Rem.head).ch | exact (((h.rem Rem.head).rem Rem.head).rem Rem.head).ch)) (fun _ h => trivial) ?_
                  refine QuP.nil ?_
                  refine UW.step [_] rfl (List.forall_mem_cons.2 ⟨?_, by simp⟩)
                  refine RW.call rfl ca10 rfl (fun w' _ => with_c w' _ (by omega) o.p o.n true) ?_
                  refine RW.st (fun _ => True) (fun _ h => .inr ⟨.inr (by first | trivial | exact h | exact h.ch | exact (h.rem Rem.head).ch | exact ((h.rem Rem.head).rem Rem.head).ch | exact (((h.rem Rem.head).rem Rem.head).rem Rem.head).ch), trivial⟩) (fun _ h => trivial) ?_
                  refine QuP.nil ?_
                  refine UW.step [_] rfl (List.forall_mem_cons.2 ⟨?_, by simp⟩)
                  refine RW.call rfl ca10 rfl (fun w' _ => with_c w' _ (by omega) o.p o.n false) ?_
                  refine RW.st (fun _ => True) (fun _ h => .inr ⟨.inr ⟨.inr (by first | trivial | exact h | exact h.ch | exact (h.rem Rem.head).ch | exact ((h.rem Rem.head).rem Rem.head).ch | exact (((h.rem Rem.head).rem Rem.head).rem Rem.head).ch), trivial⟩, trivial⟩) (fun _ h => trivial) ?_
                  refine QuP.nil ?_
                  refine UW.step [_] rfl (List.forall_mem_cons.2 ⟨?_, by simp⟩)
                  refine RW.storeA ag26 rfl rfl (by first | exact Upd.head | exact Upd.tail Upd.head | exact Upd.tail (Upd.tail Upd.head) | exact Upd.tail (Upd.tail (Upd.tail Upd.head)) | exact Upd.tail (Upd.tail (Upd.tail (Upd.tail Upd.head))) | exact Upd.tail (Upd.tail (Upd.tail (Upd.tail (Upd.tail Upd.head)))) | exact Upd.tail (Upd.tail (Upd.tail (Upd.tail (Upd.tail (Upd.tail Upd.head)))))) (by first | rfl | exact Enc.len _ _) (by repeat (first | exact Ones.nil | exact Enc.ones _ _ | refine Ones.cons rfl ?_)) (by first | exact Nat.le_of_ble_eq_true rfl | (simp only [Enc.len]; decide)) ?_
                  refine RW.st (fun _ => True) (fun _ h => .inr ⟨.inr ⟨.inr ⟨.inr (by first | trivial | exact h | exact h.ch | exact (h.rem Rem.head).ch | exact ((h.rem Rem.head).rem Rem.head).ch | exact (((h.rem Rem.head).rem Rem.head).rem Rem.head).ch), trivial⟩, trivial⟩, trivial⟩) (fun _ h => trivial) ?_
                  refine QuP.nil ?_
                  refine UW.nil ?_
                  -- mq: joinend
                  exact EX.jnI g11 hg11 (by repeat (first | exact Sub.nil | refine Sub.cons (by rfl) ?_)) (fun w' hw' => hw')
              · skip
                rintro g11 hg11
                have hbr := playF_lt newB hb0 r
                refine EX.seq (CW.seq ?_)
                -- mq: region
                refine CW.drawU [0, 1, 2, 3, 5] 6 [[(4, false, []), (6, false, []), (7, false, [8, 9, 10, 11, 12, 13, 14]), (15, false, [16, 17, 18, 19, 20, 21, 22, 23, 24]), (25, false, [26, 27, 28, 29, 30, 31, 32, 33]), (34, false, [35, 36, 37, 38, 39, 40, 41])]] (Ch [blk g11 [.int .u32 (withF (withF (playF newB l) o.p o.n true) o.p o.n false : Int)] 26, blk g8 [.int .u32 (playF newB r : Int)] 26, blk g7 [.int .u32 (playF newB l : Int)] 26, blk g5 o.enc 33]) mixed (by kernel_rfl) (fun _ hw => hw.drew) (fun _ h => (by first | trivial | exact h | exact h.ch | exact (h.rem Rem.head).ch | exact ((h.rem Rem.head).rem Rem.head).ch | exact (((h.rem Rem.head).rem Rem.head).rem Rem.head).ch)) ?_
                refine QuP.cons rfl (fun wq hq => (RW.loadA ag26 rfl rfl rfl (fun w1 e1 j u hj => by subst e1; exact hq.blk_at (sz := 1) (by first | exact Has.head | exact Has.tail Has.head | exact Has.tail (Has.tail Has.head) | exact Has.tail (Has.tail (Has.tail Has.head)) | exact Has.tail (Has.tail (Has.tail (Has.tail Has.head))) | exact Has.tail (Has.tail (Has.tail (Has.tail (Has.tail Has.head)))) | exact Has.tail (Has.tail (Has.tail (Has.tail (Has.tail (Has.tail Has.head)))))) rfl j u hj) RW.jn)) ?_
                refine QuP.cons rfl (fun wq hq => (RW.loadA ag26 rfl rfl rfl (fun w1 e1 j u hj => by subst e1; exact hq.blk_at (sz := 1) (by first | exact Has.head | exact Has.tail Has.head | exact Has.tail (Has.tail Has.head) | exact Has.tail (Has.tail (Has.tail Has.head)) | exact Has.tail (Has.tail (Has.tail (Has.tail Has.head))) | exact Has.tail (Has.tail (Has.tail (Has.tail (Has.tail Has.head)))) | exact Has.tail (Has.tail (Has.tail (Has.tail (Has.tail (Has.tail Has.head)))))) rfl j u hj) RW.jn)) ?_
                refine QuP.cons rfl (fun wq hq => (RW.eqlSt eq26 rfl rfl rfl (by kernel_rfl) (heq _ _) RW.jn)) ?_
                refine QuP.cons rfl (fun wq hq => (RW.loadA ag26 rfl rfl rfl (fun w1 e1 j u hj => by subst e1; exact hq.blk_at (sz := 1) (by first | exact Has.head | exact Has.tail Has.head | exact Has.tail (Has.tail Has.head) | exact Has.tail (Has.tail (Has.tail Has.head)) | exact Has.tail (Has.tail (Has.tail (Has.tail Has.head))) | exact Has.tail (Has.tail (Has.tail (Has.tail (Has.tail Has.head)))) | exact Has.tail (Has.tail (Has.tail (Has.tail (Has.tail (Has.tail Has.head)))))) rfl j u hj) RW.jn)) ?_
                refine QuP.cons rfl (fun wq hq => (RW.loadA ag26 rfl rfl rfl (fun w1 e1 j u hj => by subst e1; exact hq.blk_at (sz := 1) (by first | exact Has.head | exact Has.tail Has.head | exact Has.tail (Has.tail Has.head) | exact Has.tail (Has.tail (Has.tail Has.head)) | exact Has.tail (Has.tail (Has.tail (Has.tail Has.head))) | exact Has.tail (Has.tail (Has.tail (Has.tail (Has.tail Has.head)))) | exact Has.tail (Has.tail (Has.tail (Has.tail (Has.tail (Has.tail Has.head)))))) rfl j u hj) RW.jn)) ?_
                refine QuP.nil ?_
                refine UW.step [_] rfl (List.forall_mem_cons.2 ⟨?_, by simp⟩)
                refine RW.callK rfl ca14 rfl (fun w' hw' => list_c w' (hg.ext hw'.ext) _ (by omega)) (fun w3 w4 A4 n4 c4 hw3 he34 hw4 hlt4 hrd4 => ?_)
                refine RW.st (fun _ => True) (fun _ h => .inr (by first | trivial | exact h | exact h.ch | exact (h.rem Rem.head).ch | exact ((h.rem Rem.head).rem Rem.head).ch | exact (((h.rem Rem.head).rem Rem.head).rem Rem.head).ch)) (fun _ h => trivial) ?_
                refine QuP.nil ?_
                refine UW.step [_] rfl (List.forall_mem_cons.2 ⟨?_, by simp⟩)
                refine RW.callK rfl ca14 rfl (fun w' hw' => list_c w' (hg.ext (hw'.unbase (hw3.ext.trans0 he34) hw3.cov).ext) _ (by omega)) (fun w5 w6 A6 n6 c6 hw5 he56 hw6 hlt6 hrd6 => ?_)
                refine RW.st (fun _ => True) (fun _ h => .inr ⟨.inr (by first | trivial | exact h | exact h.ch | exact (h.rem Rem.head).ch | exact ((h.rem Rem.head).rem Rem.head).ch | exact (((h.rem Rem.head).rem Rem.head).rem Rem.head).ch), trivial⟩) (fun _ h => trivial) ?_
                refine QuP.nil ?_
                refine UW.step [_] rfl (List.forall_mem_cons.2 ⟨?_, by simp⟩)
                refine RW.call rfl ca13 rfl (fun w' hw' => same_c w' _ _ _ _ _ _ _ _ _ _ (((hrd4.ext hw5.ext (fun k hk hk2 => by have := hlt4 k hk2; omega)).ext he56 (by simp)).ext hw'.ext (fun k hk hk2 => by have := hlt4 k hk2; omega)) (hrd6.ext hw'.ext (fun k hk hk2 => by have := hlt6 k hk2; omega)) (by rw [← hrd4.len]; exact Nat.le_trans (listTo_len _ 18) (by decide))) ?_
                refine RW.st (Ch [blk g11 [.int .u32 (withF (withF (playF newB l) o.p o.n true) o.p o.n false : Int)] 26, blk g8 [.int .u32 (playF newB r : Int)] 26, blk g7 [.int .u32 (playF newB l : Int)] 26, blk g5 o.enc 33]) (fun _ h => .inr ⟨.inr ⟨.inr (by first | trivial | exact h | exact h.ch | exact (h.rem Rem.head).ch | exact ((h.rem Rem.head).rem Rem.head).ch | exact (((h.rem Rem.head).rem Rem.head).rem Rem.head).ch), trivial⟩, trivial⟩) (fun _ h => (by first | trivial | exact h | exact h.ch | exact (h.rem Rem.head).ch | exact ((h.rem Rem.head).rem Rem.head).ch | exact (((h.rem Rem.head).rem Rem.head).rem Rem.head).ch)) ?_
                refine QuP.cons rfl (fun wq hq => (RW.eqlB Tryd.underlying4 rfl rfl rfl RW.jn)) ?_
                refine QuP.cons rfl (fun wq hq => (RW.move rfl rfl RW.jn)) ?_
                refine QuP.cons rfl (fun wq hq => RW.guardT rfl rfl ((by rw [list_inj hbl hbr]; simp)) (RW.loadA ag26 rfl rfl rfl (fun w1 e1 j u hj => by subst e1; exact hq.blk_at (sz := 1) (by first | exact Has.head | exact Has.tail Has.head | exact Has.tail (Has.tail Has.head) | exact Has.tail (Has.tail (Has.tail Has.head)) | exact Has.tail (Has.tail (Has.tail (Has.tail Has.head))) | exact Has.tail (Has.tail (Has.tail (Has.tail (Has.tail Has.head)))) | exact Has.tail (Has.tail (Has.tail (Has.tail (Has.tail (Has.tail Has.head)))))) rfl j u hj) RW.jn)) ?_
                refine QuP.cons rfl (fun wq hq => RW.guardT rfl rfl ((by rw [list_inj hbl hbr]; simp)) (RW.fieldB fl33x0 rfl rfl RW.jn)) ?_
                refine QuP.cons rfl (fun wq hq => RW.guardT rfl rfl ((by rw [list_inj hbl hbr]; simp)) (RW.load1 sc4 rfl rfl (fun w1 e1 => by subst e1; exact hq.blk_cell (by first | exact Has.head | exact Has.tail Has.head | exact Has.tail (Has.tail Has.head) | exact Has.tail (Has.tail (Has.tail Has.head)) | exact Has.tail (Has.tail (Has.tail (Has.tail Has.head))) | exact Has.tail (Has.tail (Has.tail (Has.tail (Has.tail Has.head)))) | exact Has.tail (Has.tail (Has.tail (Has.tail (Has.tail (Has.tail Has.head)))))) rfl) RW.jn)) ?_
                refine QuP.cons rfl (fun wq hq => RW.guardT rfl rfl ((by rw [list_inj hbl hbr]; simp)) (RW.fieldB fl33x1 rfl rfl RW.jn)) ?_
                refine QuP.cons rfl (fun wq hq => RW.guardT rfl rfl ((by rw [list_inj hbl hbr]; simp)) (RW.load1 sc3 rfl rfl (fun w1 e1 => by subst e1; exact hq.blk_cell (by first | exact Has.head | exact Has.tail Has.head | exact Has.tail (Has.tail Has.head) | exact Has.tail (Has.tail (Has.tail Has.head)) | exact Has.tail (Has.tail (Has.tail (Has.tail Has.head))) | exact Has.tail (Has.tail (Has.tail (Has.tail (Has.tail Has.head)))) | exact Has.tail (Has.tail (Has.tail (Has.tail (Has.tail (Has.tail Has.head)))))) rfl) RW.jn)) ?_
                refine QuP.nil ?_
                refine UW.step [_] rfl (List.forall_mem_cons.2 ⟨?_, by simp⟩)
                refine RW.guardT rfl rfl ((by rw [list_inj hbl hbr]; simp)) ?_
                refine RW.call rfl ca15 rfl (fun w' _ => is_c w' _ (by omega) o.p o.n) ?_
                refine RW.st (Ch [blk g11 [.int .u32 (withF (withF (playF newB l) o.p o.n true) o.p o.n false : Int)] 26, blk g8 [.int .u32 (playF newB r : Int)] 26, blk g7 [.int .u32 (playF newB l : Int)] 26, blk g5 o.enc 33]) (fun _ h => .inr ⟨.inr ⟨.inr ⟨.inr (by first | trivial | exact h | exact h.ch | exact (h.rem Rem.head).ch | exact ((h.rem Rem.head).rem Rem.head).ch | exact (((h.rem Rem.head).rem Rem.head).rem Rem.head).ch), trivial⟩, trivial⟩, (by first | trivial | exact h | exact h.ch | exact (h.rem Rem.head).ch | exact ((h.rem Rem.head).rem Rem.head).ch | exact (((h.rem Rem.head).rem Rem.head).rem Rem.head).ch)⟩) (fun _ h => (by first | trivial | exact h | exact h.ch | exact (h.rem Rem.head).ch | exact ((h.rem Rem.head).rem Rem.head).ch | exact (((h.rem Rem.head).rem Rem.head).rem Rem.head).ch)) ?_
                refine QuP.cons rfl (fun wq hq => RW.guardT rfl rfl ((by rw [list_inj hbl hbr]; simp)) (RW.not_ rfl rfl RW.jn)) ?_
                refine QuP.cons rfl (fun wq hq => (RW.pickB rfl rfl (by rw [list_inj hbl hbr]; simp) rfl RW.jn)) ?_
                refine QuP.cons rfl (fun wq hq => (RW.move rfl rfl RW.jn)) ?_
                refine QuP.cons rfl (fun wq hq => RW.guardT rfl rfl ((by rw [isF_with]; simp)) (RW.loadA ag26 rfl rfl rfl (fun w1 e1 j u hj => by subst e1; exact hq.blk_at (sz := 1) (by first | exact Has.head | exact Has.tail Has.head | exact Has.tail (Has.tail Has.head) | exact Has.tail (Has.tail (Has.tail Has.head)) | exact Has.tail (Has.tail (Has.tail (Has.tail Has.head))) | exact Has.tail (Has.tail (Has.tail (Has.tail (Has.tail Has.head)))) | exact Has.tail (Has.tail (Has.tail (Has.tail (Has.tail (Has.tail Has.head)))))) rfl j u hj) RW.jn)) ?_
                refine QuP.cons rfl (fun wq hq => RW.guardT rfl rfl ((by rw [isF_with]; simp)) (RW.loadA ag26 rfl rfl rfl (fun w1 e1 j u hj => by subst e1; exact hq.blk_at (sz := 1) (by first | exact Has.head | exact Has.tail Has.head | exact Has.tail (Has.tail Has.head) | exact Has.tail (Has.tail (Has.tail Has.head)) | exact Has.tail (Has.tail (Has.tail (Has.tail Has.head))) | exact Has.tail (Has.tail (Has.tail (Has.tail (Has.tail Has.head)))) | exact Has.tail (Has.tail (Has.tail (Has.tail (Has.tail (Has.tail Has.head)))))) rfl j u hj) RW.jn)) ?_
                refine QuP.cons rfl (fun wq hq => RW.guardT rfl rfl ((by rw [isF_with]; simp)) (RW.fieldB fl33x0 rfl rfl RW.jn)) ?_
                refine QuP.cons rfl (fun wq hq => RW.guardT rfl rfl ((by rw [isF_with]; simp)) (RW.load1 sc4 rfl rfl (fun w1 e1 => by subst e1; exact hq.blk_cell (by first | exact Has.head | exact Has.tail Has.head | exact Has.tail (Has.tail Has.head) | exact Has.tail (Has.tail (Has.tail Has.head)) | exact Has.tail (Has.tail (Has.tail (Has.tail Has.head))) | exact Has.tail (Has.tail (Has.tail (Has.tail (Has.tail Has.head)))) | exact Has.tail (Has.tail (Has.tail (Has.tail (Has.tail (Has.tail Has.head)))))) rfl) RW.jn)) ?_
                refine QuP.cons rfl (fun wq hq => RW.guardT rfl rfl ((by rw [isF_with]; simp)) (RW.fieldB fl33x1 rfl rfl RW.jn)) ?_
                refine QuP.cons rfl (fun wq hq => RW.guardT rfl rfl ((by rw [isF_with]; simp)) (RW.load1 sc3 rfl rfl (fun w1 e1 => by subst e1; exact hq.blk_cell (by first | exact Has.head | exact Has.tail Has.head | exact Has.tail (Has.tail Has.head) | exact Has.tail (Has.tail (Has.tail Has.head)) | exact Has.tail (Has.tail (Has.tail (Has.tail Has.head))) | exact Has.tail (Has.tail (Has.tail (Has.tail (Has.tail Has.head)))) | exact Has.tail (Has.tail (Has.tail (Has.tail (Has.tail (Has.tail Has.head)))))) rfl) RW.jn)) ?_
                refine QuP.nil ?_
                refine UW.step [_] rfl (List.forall_mem_cons.2 ⟨?_, by simp⟩)
                refine RW.guardT rfl rfl ((by rw [isF_with]; simp)) ?_
                refine RW.call rfl ca10 rfl (fun w' _ => with_c w' _ (by omega) o.p o.n false) ?_
                refine RW.st (Ch [blk g11 [.int .u32 (withF (withF (playF newB l) o.p o.n true) o.p o.n false : Int)] 26, blk g8 [.int .u32 (playF newB r : Int)] 26, blk g7 [.int .u32 (playF newB l : Int)] 26, blk g5 o.enc 33]) (fun _ h => .inr ⟨.inr ⟨.inr ⟨.inr ⟨.inr (by first | trivial | exact h | exact h.ch | exact (h.rem Rem.head).ch | exact ((h.rem Rem.head).rem Rem.head).ch | exact (((h.rem Rem.head).rem Rem.head).rem Rem.head).ch), trivial⟩, trivial⟩, (by first | trivial | exact h | exact h.ch | exact (h.rem Rem.head).ch | exact ((h.rem Rem.head).rem Rem.head).ch | exact (((h.rem Rem.head).rem Rem.head).rem Rem.head).ch)⟩, (by first | trivial | exact h | exact h.ch | exact (h.rem Rem.head).ch | exact ((h.rem Rem.head).rem Rem.head).ch | exact (((h.rem Rem.head).rem Rem.head).rem Rem.head).ch)⟩) (fun _ h => (by first | trivial | exact h | exact h.ch | exact (h.rem Rem.head).ch | exact ((h.rem Rem.head).rem Rem.head).ch | exact (((h.rem Rem.head).rem Rem.head).rem Rem.head).ch)) ?_
                refine QuP.cons rfl (fun wq hq => RW.guardT rfl rfl ((by rw [isF_with]; simp)) (RW.eqlSt eq26 rfl rfl rfl (by kernel_rfl) (heq _ _) RW.jn)) ?_
                refine QuP.cons rfl (fun wq hq => (RW.pickB rfl rfl (by rw [isF_with]; simp) rfl RW.jn)) ?_
                refine QuP.cons rfl (fun wq hq => (RW.move rfl rfl RW.jn)) ?_
                refine QuP.cons rfl (fun wq hq => RW.guardT rfl rfl ((by rw [back_law _ _ _ hbl]; simp)) (RW.loadA ag26 rfl rfl rfl (fun w1 e1 j u hj => by subst e1; exact hq.blk_at (sz := 1) (by first | exact Has.head | exact Has.tail Has.head | exact Has.tail (Has.tail Has.head) | exact Has.tail (Has.tail (Has.tail Has.head)) | exact Has.tail (Has.tail (Has.tail (Has.tail Has.head))) | exact Has.tail (Has.tail (Has.tail (Has.tail (Has.tail Has.head)))) | exact Has.tail (Has.tail (Has.tail (Has.tail (Has.tail (Has.tail Has.head)))))) rfl j u hj) RW.jn)) ?_
                refine QuP.cons rfl (fun wq hq => RW.guardT rfl rfl ((by rw [back_law _ _ _ hbl]; simp)) (RW.fieldB fl33x0 rfl rfl RW.jn)) ?_
                refine QuP.cons rfl (fun wq hq => RW.guardT rfl rfl ((by rw [back_law _ _ _ hbl]; simp)) (RW.load1 sc4 rfl rfl (fun w1 e1 => by subst e1; exact hq.blk_cell (by first | exact Has.head | exact Has.tail Has.head | exact Has.tail (Has.tail Has.head) | exact Has.tail (Has.tail (Has.tail Has.head)) | exact Has.tail (Has.tail (Has.tail (Has.tail Has.head))) | exact Has.tail (Has.tail (Has.tail (Has.tail (Has.tail Has.head)))) | exact Has.tail (Has.tail (Has.tail (Has.tail (Has.tail (Has.tail Has.head)))))) rfl) RW.jn)) ?_
                refine QuP.cons rfl (fun wq hq => RW.guardT rfl rfl ((by rw [back_law _ _ _ hbl]; simp)) (RW.fieldB fl33x1 rfl rfl RW.jn)) ?_
                refine QuP.cons rfl (fun wq hq => RW.guardT rfl rfl ((by rw [back_law _ _ _ hbl]; simp)) (RW.load1 sc3 rfl rfl (fun w1 e1 => by subst e1; exact hq.blk_cell (by first | exact Has.head | exact Has.tail Has.head | exact Has.tail (Has.tail Has.head) | exact Has.tail (Has.tail (Has.tail Has.head)) | exact Has.tail (Has.tail (Has.tail (Has.tail Has.head))) | exact Has.tail (Has.tail (Has.tail (Has.tail (Has.tail Has.head)))) | exact Has.tail (Has.tail (Has.tail (Has.tail (Has.tail (Has.tail Has.head)))))) rfl) RW.jn)) ?_
                refine QuP.nil ?_
                refine UW.step [_] rfl (List.forall_mem_cons.2 ⟨?_, by simp⟩)
                refine RW.guardT rfl rfl ((by rw [back_law _ _ _ hbl]; simp)) ?_
                refine RW.call rfl ca15 rfl (fun w' _ => is_c w' _ (by omega) o.p o.n) ?_
                refine RW.st (Ch [blk g11 [.int .u32 (withF (withF (playF newB l) o.p o.n true) o.p o.n false : Int)] 26, blk g8 [.int .u32 (playF newB r : Int)] 26, blk g7 [.int .u32 (playF newB l : Int)] 26, blk g5 o.enc 33]) (fun _ h => .inr ⟨.inr ⟨.inr ⟨.inr ⟨.inr ⟨.inr (by first | trivial | exact h | exact h.ch | exact (h.rem Rem.head).ch | exact ((h.rem Rem.head).rem Rem.head).ch | exact (((h.rem Rem.head).rem Rem.head).rem Rem.head).ch), trivial⟩, trivial⟩, (by first | trivial | exact h | exact h.ch | exact (h.rem Rem.head).ch | exact ((h.rem Rem.head).rem Rem.head).ch | exact (((h.rem Rem.head).rem Rem.head).rem Rem.head).ch)⟩, (by first | trivial | exact h | exact h.ch | exact (h.rem Rem.head).ch | exact ((h.rem Rem.head).rem Rem.head).ch | exact (((h.rem Rem.head).rem Rem.head).rem Rem.head).ch)⟩, (by first | trivial | exact h | exact h.ch | exact (h.rem Rem.head).ch | exact ((h.rem Rem.head).rem Rem.head).ch | exact (((h.rem Rem.head).rem Rem.head).rem Rem.head).ch)⟩) (fun _ h => (by first | trivial | exact h | exact h.ch | exact (h.rem Rem.head).ch | exact ((h.rem Rem.head).rem Rem.head).ch | exact (((h.rem Rem.head).rem Rem.head).rem Rem.head).ch)) ?_
                refine QuP.cons rfl (fun wq hq => RW.guardT rfl rfl ((by rw [back_law _ _ _ hbl]; simp)) (RW.move rfl rfl RW.jn)) ?_
                -- mq: guard slot 119
                refine QuP.casesB 119 rfl (fun hs => ?_) (fun hs => ?_)
                · skip
                  refine QuP.cons rfl (fun wq hq => RW.guardF rfl rfl rfl (hs) RW.jn) ?_
                  refine QuP.cons rfl (fun wq hq => RW.guardF rfl rfl rfl (hs) RW.jn) ?_
                  refine QuP.cons rfl (fun wq hq => RW.guardF rfl rfl rfl (hs) RW.jn) ?_
                  refine QuP.cons rfl (fun wq hq => RW.guardT rfl rfl ((by rw [back_law _ _ _ hbl]; simp)) (RW.pickB rfl rfl hs rfl RW.jn)) ?_
                  refine QuP.cons rfl (fun wq hq => (RW.pickB rfl rfl (by rw [back_law _ _ _ hbl]; simp) rfl RW.jn)) ?_
                  refine QuP.cons rfl (fun wq hq => (RW.assign rfl rfl RW.jn)) ?_
                  refine QuP.nil ?_
                  refine UW.nil (EX.seq (CW.ret ?_))
                  refine EX.fin1 Tryd.results5 rfl (fun wz hw => ?_)
                  -- mq: done
                  exact ⟨rfl, ((hw.unbase (hw5.ext.trans0 he56) hw5.cov).unbase (hw3.ext.trans0 he34) hw3.cov).ext⟩
                · skip
                  refine QuP.cons rfl (fun wq hq => RW.guardT rfl rfl (hs) (RW.loadA ag26 rfl rfl rfl (fun w1 e1 j u hj => by subst e1; exact hq.blk_at (sz := 1) (by first | exact Has.head | exact Has.tail Has.head | exact Has.tail (Has.tail Has.head) | exact Has.tail (Has.tail (Has.tail Has.head)) | exact Has.tail (Has.tail (Has.tail (Has.tail Has.head))) | exact Has.tail (Has.tail (Has.tail (Has.tail (Has.tail Has.head)))) | exact Has.tail (Has.tail (Has.tail (Has.tail (Has.tail (Has.tail Has.head)))))) rfl j u hj) RW.jn)) ?_
                  refine QuP.cons rfl (fun wq hq => RW.guardT rfl rfl (hs) (RW.loadA ag26 rfl rfl rfl (fun w1 e1 j u hj => by subst e1; exact hq.blk_at (sz := 1) (by first | exact Has.head | exact Has.tail Has.head | exact Has.tail (Has.tail Has.head) | exact Has.tail (Has.tail (Has.tail Has.head)) | exact Has.tail (Has.tail (Has.tail (Has.tail Has.head))) | exact Has.tail (Has.tail (Has.tail (Has.tail (Has.tail Has.head)))) | exact Has.tail (Has.tail (Has.tail (Has.tail (Has.tail (Has.tail Has.head)))))) rfl j u hj) RW.jn)) ?_
                  refine QuP.cons rfl (fun wq hq => RW.guardT rfl rfl (hs) (RW.eqlSt eq26 rfl rfl rfl (by kernel_rfl) (heq _ _) RW.jn)) ?_
                  refine QuP.cons rfl (fun wq hq => RW.guardT rfl rfl ((by rw [back_law _ _ _ hbl]; simp)) (RW.pickC rfl rfl hs rfl RW.jn)) ?_
                  refine QuP.cons rfl (fun wq hq => (RW.pickB rfl rfl (by rw [back_law _ _ _ hbl]; simp) rfl RW.jn)) ?_
                  refine QuP.cons rfl (fun wq hq => (RW.assign rfl rfl RW.jn)) ?_
                  refine QuP.nil ?_
                  refine UW.nil (EX.seq (CW.ret ?_))
                  refine EX.fin1 Tryd.results5 rfl (fun wz hw => ?_)
                  -- mq: done
                  refine ⟨?_, ((hw.unbase (hw5.ext.trans0 he56) hw5.cov).unbase (hw3.ext.trans0 he34) hw3.cov).ext⟩
                  rw [back_law _ _ _ hbl, kept_law _ _ _ hbl hs]
                  simp
end Go.Proofs.YtpjehphcpegajaaDoor.Mq
