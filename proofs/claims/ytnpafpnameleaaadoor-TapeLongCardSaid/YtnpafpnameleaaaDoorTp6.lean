/- tape: Parse -/
import Derived.Test.YtnpafpnameleaaaDoorTp5
namespace Go.Proofs.YtnpafpnameleaaaDoor.Mq
open Go Go.RowKit Go.Proofs

theorem kinds_at : ∀ i, i < 7 → (kindsV.drop (i * 3)).take 3 = kindV i := by
  intro i h
  rcases (show i = 0 ∨ i = 1 ∨ i = 2 ∨ i = 3 ∨ i = 4 ∨ i = 5 ∨ i = 6 by omega) with rfl | rfl | rfl | rfl | rfl | rfl | rfl <;> rfl
theorem kindOf_none {h : List UInt8} (hn : ∀ j, j < 7 → wordsK.getD j [] ≠ h) : kindOf h = none := by
  unfold kindOf
  rw [List.find?_eq_none]
  intro j hj
  have := List.mem_range.1 hj
  simpa using hn j this
theorem parse_some {s : List UInt8} {k : Nat} (hk : k < 7) (h : wordsK.getD k [] = (fullP 32 s).headD []) : parseS s = fillS k (fullP 32 s).tail := by
  unfold parseS
  rw [← h, kindOf_word k hk]
theorem parse_none {s : List UInt8} (hn : ∀ j, j < 7 → wordsK.getD j [] ≠ (fullP 32 s).headD []) : parseS s = (zeroS, 7) := by
  unfold parseS
  rw [kindOf_none hn]
theorem full_head (s : List UInt8) : (fullP 32 s)[0]? = some ((fullP 32 s).headD []) := by
  cases h : fullP 32 s with
  | nil => exact absurd h (fullP_ne 32 s)
  | cons a r => rfl
theorem full_tail (s : List UInt8) : ((fullP 32 s).take (fullP 32 s).length).drop 1 = (fullP 32 s).tail := by rw [List.take_length]; simp
theorem Parse_c (w : World) (hg : Gl w) (hge : Ge w) (hgm : Gm w) (s : List UInt8) (hs : s.length ≤ 1000000) :
    Calls Tryd.prog 11 [.string (bs s)].toArray w (fun e w' => e = .returned (fillV (parseS s)) ∧ Ext [] w w') := by
  have hsm := full_mem 32 s
  have hpos : 0 < (fullP 32 s).length := List.length_pos_iff.2 (fullP_ne 32 s)
  refine calls (n := 30) Tryd.func11 rfl Tryd.ntmps11 rfl ?_
  refine CW.sub (H' := SH w [] []) ?_ (Sub.refl _) (fun x hx => SH.start' _ _ hx)
  refine CW.seq (CW.region ?_)
  refine RW.allocA ag23 rfl (fun g2 hg2 hf2 => ?_)
  refine RW.assign rfl rfl ?_
  refine RW.nil (EX.seq (CW.seq ?_))
  -- mq: region
  refine CW.region ?_
  refine RW.move rfl rfl ?_
  -- mq: at
  refine RW.callK rfl caSplit rfl (fun w' hw' => split_c w' (hgm.ext hw'.ext) s 32 hs) (fun w2 w3 A4 n4 c4 hw2 he23 hw3 hlt3 hrd4 => ?_)
  have hn4 := hrd4.len
  have hcap4 := hrd4.cap
  have hx13 : Ext [] w w3 := hw2.ext.trans0 he23
  have hcv := hw2.cov
  refine RW.assign rfl rfl ?_
  refine RW.nil (EX.seq (CW.seq (CW.seq ?_)))
  -- mq: region
  refine CW.region ?_
  refine RW.call rfl ca18 rfl (fun w' _ => kinds_c w') ?_
  refine RW.move rfl rfl ?_
  refine RW.nil (EX.seq (CW.block ?_))
  -- mq: loop
  refine CW.loop (ι := Nat) (fun i => [(2, .pointer (some ⟨g2, 0, none⟩)), (4, .slice A4 n4 c4), (9, .agg kindsV.toArray), (10, .int .i64 (i : Int))]) (fun _ => SH w3 (feet [blk g2 [.int .i64 0, .int .i64 0, .int .i64 0, .string (bs [])] 23]) [blk g2 [.int .i64 0, .int .i64 0, .int .i64 0, .string (bs [])] 23]) (fun i => i ≤ 7 ∧ ∀ j, j < i → wordsK.getD j [] ≠ (fullP 32 s).headD []) (fun i => 7 - i) ?_ ?_
  · exact fun w' hw' => ⟨0, ⟨Nat.zero_le _, fun j hj => absurd hj (Nat.not_lt_zero _)⟩, (by repeat (first | exact Sub.nil | refine Sub.cons (by rfl) ?_)), hw'⟩
  · rintro i ⟨hi, hno⟩
    refine CW.seq (CW.region ?_)
    refine RW.lss rfl rfl rfl ?_
    refine RW.nil (EX.seq (CW.seq ?_))
    -- mq: cond
    first | refine CW.condD rfl (fun hlt => ?_) (fun hlt => ?_) | refine CW.cond rfl (fun hlt => ?_) (fun hlt => ?_)
    · skip
      have hi7 : i < 7 := by omega
      have hki := kinds_at i hi7
      obtain ⟨ad, hA4, hAd, hcl⟩ := hrd4.at_ (full_head s)
      have hnf : ad.block ∉ feet [blk g2 [.int .i64 0, .int .i64 0, .int .i64 0, .string (bs [])] 23] := fun hk2 => by have := hlt3 _ hk2; omega
      refine CW.skip (EX.seq (CW.seq (CW.block (CW.seq (CW.region ?_)))))
      refine RW.move rfl rfl ?_
      refine RW.ixValA (q := i) Tryd.underlying48 ag47 rfl rfl rfl (by omega) (by omega) hki ?_
      refine RW.allocA ag47 rfl (fun g6 hg6 hf6 => ?_)
      refine RW.assign rfl rfl ?_
      refine RW.storeA ag47 rfl rfl (by first | exact Upd.head | exact Upd.tail Upd.head | exact Upd.tail (Upd.tail Upd.head) | exact Upd.tail (Upd.tail (Upd.tail Upd.head)) | exact Upd.tail (Upd.tail (Upd.tail (Upd.tail Upd.head))) | exact Upd.tail (Upd.tail (Upd.tail (Upd.tail (Upd.tail Upd.head)))) | exact Upd.tail (Upd.tail (Upd.tail (Upd.tail (Upd.tail (Upd.tail Upd.head)))))) (by first | rfl | exact Enc.len _ _) (by repeat (first | exact Ones.nil | exact Enc.ones _ _ | refine Ones.cons rfl ?_)) (by first | exact Nat.le_of_ble_eq_true rfl | (simp only [Enc.len]; decide)) ?_
      refine RW.nil (EX.seq (CW.seq ?_))
      -- mq: region
      refine CW.drawU [0, 1, 2, 3, 4, 5] 0 [[]] (SH w3 (feet [blk g2 [.int .i64 0, .int .i64 0, .int .i64 0, .string (bs [])] 23]) [blk g6 (kindV i) 47, blk g2 [.int .i64 0, .int .i64 0, .int .i64 0, .string (bs [])] 23]) mixed (by kernel_rfl) (fun _ hw => hw.drew) (fun _ h => (by first | trivial | exact h | exact h.ch | exact (h.rem Rem.head).ch | exact ((h.rem Rem.head).rem Rem.head).ch | exact (((h.rem Rem.head).rem Rem.head).rem Rem.head).ch)) ?_
      refine QuP.cons rfl (fun wq hq => (RW.fieldB fl47x0 rfl rfl RW.jn)) ?_
      refine QuP.cons rfl (fun wq hq => (RW.load1 sc9 rfl rfl (fun w1 e1 => by subst e1; exact hq.blk_cell (by first | exact Has.head | exact Has.tail Has.head | exact Has.tail (Has.tail Has.head) | exact Has.tail (Has.tail (Has.tail Has.head)) | exact Has.tail (Has.tail (Has.tail (Has.tail Has.head))) | exact Has.tail (Has.tail (Has.tail (Has.tail (Has.tail Has.head)))) | exact Has.tail (Has.tail (Has.tail (Has.tail (Has.tail (Has.tail Has.head)))))) rfl) RW.jn)) ?_
      refine QuP.cons rfl (fun wq hq => (RW.move rfl rfl RW.jn)) ?_
      refine QuP.cons rfl (fun wq hq => (RW.ixAddr (q := 0) sl50 rfl rfl rfl (by first | rfl | assumption) (by omega) (by omega) RW.jn)) ?_
      refine QuP.cons rfl (fun wq hq => (RW.load1 sc9 rfl rfl (fun w1 e1 => by subst e1; exact (hq.base_cell (hcl 0 _ rfl) (by rw [block_add]; exact hnf))) RW.jn)) ?_
      refine QuP.cons rfl (fun wq hq => (RW.eqlS rfl rfl rfl RW.jn)) ?_
      refine QuP.nil ?_
      refine UW.nil (EX.seq ?_)
      -- mq: cond
      first | refine CW.condD rfl (fun heq => ?_) (fun heq => ?_) | refine CW.cond rfl (fun heq => ?_) (fun heq => ?_)
      · skip
        refine CW.seq ?_
        -- mq: region
        have hcut := hrd4.cut (p := 1) (q := n4) (by omega) (Nat.le_refl _)
        rw [show (fullP 32 s).take n4 = (fullP 32 s).take (fullP 32 s).length by rw [hn4], full_tail] at hcut
        have htm : ∀ x ∈ (fullP 32 s).tail, x.length ≤ 1000000 := fun x hx => by have := (hsm x (List.mem_of_mem_tail hx)).2; omega
        have hfl : ∀ k ∈ feet [blk g2 [.int .i64 0, .int .i64 0, .int .i64 0, .string (bs [])] 23], k < w2.heap.size := hlt3
        refine CW.drawU [0, 1, 2, 3, 4] 2 [[(5, false, [6, 7]), (8, true, [9])]] (SH w3 (feet [blk g2 [.int .i64 0, .int .i64 0, .int .i64 0, .string (bs [])] 23]) [blk g6 (kindV i) 47, blk g2 [.int .i64 0, .int .i64 0, .int .i64 0, .string (bs [])] 23]) mixed (by kernel_rfl) (fun _ hw => hw.drew) (fun _ h => (by first | trivial | exact h | exact h.ch | exact (h.rem Rem.head).ch | exact ((h.rem Rem.head).rem Rem.head).ch | exact (((h.rem Rem.head).rem Rem.head).rem Rem.head).ch)) ?_
        refine QuP.cons rfl (fun wq hq => (RW.move rfl rfl RW.jn)) ?_
        refine QuP.cons rfl (fun wq hq => (RW.buildS bu23 rfl rfl rfl RW.jn)) ?_
        refine QuP.cons rfl (fun wq hq => (RW.loadA ag47 rfl rfl rfl (fun w1 e1 j u hj => by subst e1; exact hq.blk_at (sz := 3) (by first | exact Has.head | exact Has.tail Has.head | exact Has.tail (Has.tail Has.head) | exact Has.tail (Has.tail (Has.tail Has.head)) | exact Has.tail (Has.tail (Has.tail (Has.tail Has.head))) | exact Has.tail (Has.tail (Has.tail (Has.tail (Has.tail Has.head)))) | exact Has.tail (Has.tail (Has.tail (Has.tail (Has.tail (Has.tail Has.head)))))) rfl j u hj) RW.jn)) ?_
        refine QuP.cons rfl (fun wq hq => (RW.move rfl rfl RW.jn)) ?_
        refine QuP.cons rfl (fun wq hq => (RW.sliceSl 1 n4 sl50 rfl rfl (.inl ⟨_, _, rfl, rfl, rfl⟩) (.inr ⟨rfl, rfl⟩) (by omega) (by omega) RW.jn)) ?_
        refine QuP.nil ?_
        refine UW.step [_] rfl (List.forall_mem_cons.2 ⟨?_, by simp⟩)
        refine RW.call rfl ca27 rfl (fun w' hw' => fill_c w' (hg.ext ((hw'.rem Rem.head).unbase hx13 hcv).ext) (hge.ext ((hw'.rem Rem.head).unbase hx13 hcv).ext) i hi7 _ _ _ _ (fullP 32 s).tail (hcut.ext hw'.ext (fun k hk hk2 => by have := hfl k hk2; omega)) htm) ?_
        refine RW.st (fun _ => True) (fun _ h => .inr (by first | trivial | exact h | exact h.ch | exact (h.rem Rem.head).ch | exact ((h.rem Rem.head).rem Rem.head).ch | exact (((h.rem Rem.head).rem Rem.head).rem Rem.head).ch)) (fun _ h => trivial) ?_
        refine QuP.cons rfl (fun wq hq => (RW.extract rfl rfl rfl RW.jn)) ?_
        refine QuP.cons rfl (fun wq hq => (RW.extract rfl rfl rfl RW.jn)) ?_
        refine QuP.nil ?_
        refine UW.step [_] rfl (List.forall_mem_cons.2 ⟨?_, by simp⟩)
        refine RW.storeA ag23 rfl rfl (by first | exact Upd.head | exact Upd.tail Upd.head | exact Upd.tail (Upd.tail Upd.head) | exact Upd.tail (Upd.tail (Upd.tail Upd.head)) | exact Upd.tail (Upd.tail (Upd.tail (Upd.tail Upd.head))) | exact Upd.tail (Upd.tail (Upd.tail (Upd.tail (Upd.tail Upd.head)))) | exact Upd.tail (Upd.tail (Upd.tail (Upd.tail (Upd.tail (Upd.tail Upd.head)))))) (by first | rfl | exact Enc.len _ _) (by repeat (first | exact Ones.nil | exact Enc.ones _ _ | refine Ones.cons rfl ?_)) (by first | exact Nat.le_of_ble_eq_true rfl | (simp only [Enc.len]; decide)) ?_
        refine RW.st (fun _ => True) (fun _ _ => .inl rfl) (fun _ h => trivial) ?_
        refine QuP.cons rfl (fun wq hq => (RW.assign rfl rfl RW.jn)) ?_
        refine QuP.nil ?_
        refine UW.nil (EX.seq (CW.ret (EX.bkR (EX.seqR (EX.lpR (EX.bkR (EX.seqR ?_)))))))
        refine EX.fin2' Tryd.results11 (RV.cellA ag23 rfl (by first | exact Has.head | exact Has.tail Has.head | exact Has.tail (Has.tail Has.head) | exact Has.tail (Has.tail (Has.tail Has.head)) | exact Has.tail (Has.tail (Has.tail (Has.tail Has.head))) | exact Has.tail (Has.tail (Has.tail (Has.tail (Has.tail Has.head)))) | exact Has.tail (Has.tail (Has.tail (Has.tail (Has.tail (Has.tail Has.head)))))) rfl rfl) (RV.tmp rfl) (fun wz hw => ?_)
        -- mq: done
        exact ⟨by rw [parse_some hi7 heq]; rfl, ((hw.rem Rem.head).unbase hx13 hcv).ext⟩
      · skip
        refine CW.skip (EX.bkN (EX.seq (CW.region ?_)))
        refine RW.add rfl rfl rfl (wrap64 (by omega) (by omega)) ?_
        refine RW.move rfl rfl ?_
        refine RW.nil ?_
        -- mq: loopend
        refine EX.lpN (i + 1) ⟨by omega, fun j hj => ?_⟩ (by omega) (by repeat (first | exact Sub.nil | refine Sub.cons (by rfl) ?_)) (fun w' hw' => hw'.rem Rem.head)
        rcases Nat.lt_succ_iff_lt_or_eq.1 hj with h | rfl
        · exact hno j h
        · exact heq
    · skip
      obtain rfl : i = 7 := by omega
      refine CW.exit (EX.seqE (EX.lpE (EX.bkE (EX.seq (CW.seq (CW.region ?_))))))
      refine RW.buildS bu23 rfl rfl rfl ?_
      refine RW.storeA ag23 rfl rfl (by first | exact Upd.head | exact Upd.tail Upd.head | exact Upd.tail (Upd.tail Upd.head) | exact Upd.tail (Upd.tail (Upd.tail Upd.head)) | exact Upd.tail (Upd.tail (Upd.tail (Upd.tail Upd.head))) | exact Upd.tail (Upd.tail (Upd.tail (Upd.tail (Upd.tail Upd.head)))) | exact Upd.tail (Upd.tail (Upd.tail (Upd.tail (Upd.tail (Upd.tail Upd.head)))))) (by first | rfl | exact Enc.len _ _) (by repeat (first | exact Ones.nil | exact Enc.ones _ _ | refine Ones.cons rfl ?_)) (by first | exact Nat.le_of_ble_eq_true rfl | (simp only [Enc.len]; decide)) ?_
      refine RW.assign rfl rfl ?_
      refine RW.nil (EX.seq (CW.ret ?_))
      refine EX.fin2' Tryd.results11 (RV.cellA ag23 rfl (by first | exact Has.head | exact Has.tail Has.head | exact Has.tail (Has.tail Has.head) | exact Has.tail (Has.tail (Has.tail Has.head)) | exact Has.tail (Has.tail (Has.tail (Has.tail Has.head))) | exact Has.tail (Has.tail (Has.tail (Has.tail (Has.tail Has.head)))) | exact Has.tail (Has.tail (Has.tail (Has.tail (Has.tail (Has.tail Has.head)))))) rfl rfl) (RV.tmp rfl) (fun wz hw => ?_)
      -- mq: done
      exact ⟨by rw [parse_none hno]; rfl, (hw.unbase hx13 hcv).ext⟩
end Go.Proofs.YtnpafpnameleaaaDoor.Mq
