/- text: the document's decoder: Begins, One, All (printed by gen_tx6.py) -/
import Derived.Test.YtjmmikdbhhomiaaTx5
namespace Go.Proofs.Ytjmmikdbhhomiaa.Mq
open Go Go.RowKit Go.Proofs

theorem SH.ofExt {w w' : World} (h : Ext [] w w') : SH w [] [] w' := ⟨h, List.nodup_nil, fun c hc => (by cases hc), fun k hk => (by cases hk)⟩
def lowsL : List Value := [.int .i32 0, .int .i32 0, .int .i32 128, .int .i32 2048, .int .i32 65536]
def mostsL : List Value := [.int .i32 0, .int .i32 0, .int .i32 2047, .int .i32 65535, .int .i32 1114111]
theorem lows_at {n : Nat} (h : n ≤ 4) : ∃ v : Int, lowsL[0 + n * 1]? = some (.int .i32 v) := by
  rcases (show n = 0 ∨ n = 1 ∨ n = 2 ∨ n = 3 ∨ n = 4 by omega) with rfl | rfl | rfl | rfl | rfl <;> exact ⟨_, rfl⟩
theorem mosts_at {n : Nat} (h : n ≤ 4) : ∃ v : Int, mostsL[0 + n * 1]? = some (.int .i32 v) := by
  rcases (show n = 0 ∨ n = 1 ∨ n = 2 ∨ n = 3 ∨ n = 4 by omega) with rfl | rfl | rfl | rfl | rfl <;> exact ⟨_, rfl⟩
theorem begins_c (w : World) (F : Nat → Prop) (A : Option Addr) (n c : Nat) (b : List UInt8) (hr : Rd EU8 w F A n c b) (hn : n ≤ 1000000) :
    Calls Try.prog 54 [.slice A n c].toArray w (RetA (fun v _ => IsBool v) w) := by
  have hl := hr.len
  refine calls (n := 74) Try.func54 rfl Try.ntmps54 rfl ?_
  refine CW.sub (H' := SH w [] []) ?_ (Sub.refl _) (fun x hx => SH.start' _ _ hx)
  refine CW.seq (CW.region ?_)
  refine RW.assign rfl rfl ?_
  refine RW.nil (EX.seq (CW.seq (CW.seq (CW.region ?_))))
  refine RW.move rfl rfl ?_
  refine RW.lenSl Try.underlying59 rfl rfl ?_
  refine RW.add rfl rfl rfl (wrap64 (by omega) (by omega)) ?_
  refine RW.assign rfl rfl ?_
  refine RW.nil (EX.seq (CW.block ?_))
  -- mq: loop
  refine CW.loop (ι := Nat) (fun k => [(0, .slice A n c), (3, .int .i64 (k : Int))]) (fun _ => SH w [] []) (fun k => 1 ≤ k ∧ n + 1 ≤ k ∧ k ≤ n + 6) (fun k => n + 6 - k) ?_ ?_
  · exact fun w' hw' => ⟨n + 1, ⟨by omega, Nat.le_refl _, by omega⟩, (by repeat (first | exact Sub.nil | refine Sub.cons (by rfl) ?_)), hw'⟩
  · rintro k ⟨hk1, hkn, hk6⟩
    refine CW.seq (CW.seq (CW.region ?_))
    refine RW.move rfl rfl ?_
    refine RW.leq rfl rfl rfl ?_
    refine RW.move rfl rfl ?_
    -- mq: guard slot 15
    refine RW.casesB 15 rfl (fun h1 => ?_) (fun h1 => ?_)
    · skip
      have h1p := of_decide_eq_true h1
      refine RW.guardT rfl rfl h1 ?_
      refine RW.move rfl rfl ?_
      refine RW.guardT rfl rfl h1 ?_
      refine RW.lenSl Try.underlying59 rfl rfl ?_
      refine RW.guardT rfl rfl h1 ?_
      refine RW.gtr rfl rfl rfl ?_
      refine RW.pickB rfl rfl h1 rfl ?_
      refine RW.nil (EX.seq ?_)
      -- mq: cond
      first | refine CW.condD rfl (fun h2 => ?_) (fun h2 => ?_) | refine CW.cond rfl (fun h2 => ?_) (fun h2 => ?_)
      · skip
        obtain ⟨va, hva⟩ := lows_at (n := k) (by omega)
        obtain ⟨vb, hvb⟩ := mosts_at (n := k) (by omega)
        refine CW.skip (EX.seq (CW.seq (CW.block (CW.seq ?_))))
        -- mq: region
        refine CW.ownNil 5 1 ?_
        refine CW.ownNil 5 1 ?_
        refine CW.region ?_
        refine RW.assign rfl rfl ?_
        refine RW.assign rfl rfl ?_
        refine RW.nil (EX.seq (CW.seq ?_))
        -- mq: region
        refine CW.region ?_
        refine RW.move rfl rfl ?_
        refine RW.move rfl rfl ?_
        refine RW.appendSl (E := EU8) (F := F) (src := b) sl59 rfl rfl rfl (fun _ => Upd.head) (fun w' hw' => hr.ext hw'.ext (by simp)) (by simp only [maxLen]; omega) (by omega) (fun v24 hv24 => ?_)
        refine RW.move rfl rfl ?_
        refine RW.move rfl rfl ?_
        refine RW.appendSl (E := EU8) (F := F) (src := b) sl59 rfl rfl rfl (fun _ => Upd.tail Upd.head) (fun w' hw' => hr.ext hw'.ext (by simp)) (by simp only [maxLen]; omega) (by omega) (fun v27 hv27 => ?_)
        refine RW.assign rfl rfl ?_
        refine RW.assign rfl rfl ?_
        refine RW.nil (EX.seq (CW.seq (CW.block ?_)))
        -- mq: loop
        refine CW.loop (ι := Value × Value × List UInt8 × List UInt8) (fun t => [(0, .slice A n c), (3, .int .i64 (k : Int)), (4, t.1), (5, t.2.1)]) (fun t => SH w [] [own 5 1 t.1 t.2.2.1.length (EU8.all t.2.2.1), own 5 1 t.2.1 t.2.2.2.length (EU8.all t.2.2.2)]) (fun t => t.2.2.1.length ≤ k ∧ t.2.2.2.length = t.2.2.1.length) (fun t => k - t.2.2.1.length) ?_ ?_
        · exact fun w' hw' => ⟨(v24, v27, b, b), ⟨by dsimp only; omega, rfl⟩, (by repeat (first | exact Sub.nil | refine Sub.cons (by rfl) ?_)), by dsimp only; rw [hl]; rw [Nat.zero_add, List.nil_append] at hw'; exact hw'⟩
        · rintro ⟨x1, x2, L1, L2⟩ ⟨hL1, hL2⟩
          dsimp only at hL1 hL2 ⊢
          refine CW.formOwn (v := x1) Has.head (fun A4 c4 hv4 hcap4 hmax4 hlen4 hg4 => ?_)
          subst hv4
          refine CW.formOwn (v := x2) (Has.tail Has.head) (fun A5 c5 hv5 hcap5 hmax5 hlen5 hg5 => ?_)
          subst hv5
          refine CW.seq (CW.seq (CW.region ?_))
          refine RW.move rfl rfl ?_
          refine RW.lenSl Try.underlying59 rfl rfl ?_
          refine RW.move rfl rfl ?_
          refine RW.lss rfl rfl rfl ?_
          refine RW.nil (EX.seq ?_)
          -- mq: cond
          first | refine CW.condD rfl (fun h3 => ?_) (fun h3 => ?_) | refine CW.cond rfl (fun h3 => ?_) (fun h3 => ?_)
          · skip
            refine CW.skip (EX.seq (CW.block (CW.region ?_)))
            refine RW.move rfl rfl ?_
            refine RW.buildSlc sl59 rfl rfl rfl rfl (fun g33 hg33 hf33 => ?_)
            refine RW.append1 sl59 rfl rfl rfl (by first | exact Rem.head | exact Rem.tail Rem.head | exact Rem.tail (Rem.tail Rem.head) | exact Rem.tail (Rem.tail (Rem.tail Rem.head)) | exact Rem.tail (Rem.tail (Rem.tail (Rem.tail Rem.head))) | exact Rem.tail (Rem.tail (Rem.tail (Rem.tail (Rem.tail Rem.head)))) | exact Rem.tail (Rem.tail (Rem.tail (Rem.tail (Rem.tail (Rem.tail Rem.head)))))) (fun _ => by first | exact Upd.head | exact Upd.tail Upd.head | exact Upd.tail (Upd.tail Upd.head) | exact Upd.tail (Upd.tail (Upd.tail Upd.head)) | exact Upd.tail (Upd.tail (Upd.tail (Upd.tail Upd.head))) | exact Upd.tail (Upd.tail (Upd.tail (Upd.tail (Upd.tail Upd.head)))) | exact Upd.tail (Upd.tail (Upd.tail (Upd.tail (Upd.tail (Upd.tail Upd.head)))))) rfl (by repeat (first | exact Ones.nil | exact Enc.ones _ _ | refine Ones.cons rfl ?_)) (by simp only [maxLen]; omega) (by omega) (fun v34 hv34 => ?_)
            refine RW.move rfl rfl ?_
            refine RW.buildSlc sl59 rfl rfl rfl rfl (fun g36 hg36 hf36 => ?_)
            refine RW.append1 sl59 rfl rfl rfl (by first | exact Rem.head | exact Rem.tail Rem.head | exact Rem.tail (Rem.tail Rem.head) | exact Rem.tail (Rem.tail (Rem.tail Rem.head)) | exact Rem.tail (Rem.tail (Rem.tail (Rem.tail Rem.head))) | exact Rem.tail (Rem.tail (Rem.tail (Rem.tail (Rem.tail Rem.head)))) | exact Rem.tail (Rem.tail (Rem.tail (Rem.tail (Rem.tail (Rem.tail Rem.head)))))) (fun _ => by first | exact Upd.head | exact Upd.tail Upd.head | exact Upd.tail (Upd.tail Upd.head) | exact Upd.tail (Upd.tail (Upd.tail Upd.head)) | exact Upd.tail (Upd.tail (Upd.tail (Upd.tail Upd.head))) | exact Upd.tail (Upd.tail (Upd.tail (Upd.tail (Upd.tail Upd.head)))) | exact Upd.tail (Upd.tail (Upd.tail (Upd.tail (Upd.tail (Upd.tail Upd.head)))))) rfl (by repeat (first | exact Ones.nil | exact Enc.ones _ _ | refine Ones.cons rfl ?_)) (by simp only [maxLen]; omega) (by omega) (fun v37 hv37 => ?_)
            refine RW.assign rfl rfl ?_
            refine RW.assign rfl rfl ?_
            refine RW.nil (EX.bkN ?_)
            -- mq: loopend
            refine EX.lpN (v34, v37, L1 ++ [128], L2 ++ [191]) ⟨by dsimp only; simp; omega, by dsimp only; simp; omega⟩ (by dsimp only; simp; omega) (by repeat (first | exact Sub.nil | refine Sub.cons (by rfl) ?_)) (fun w' hw' => ?_)
            dsimp only
            rw [Enc.all_snoc EU8, List.length_append, Enc.all_snoc EU8, List.length_append]
            exact hw'
          · skip
            refine CW.exit (EX.seqE (EX.lpE (EX.bkE (EX.seq (CW.seq ?_)))))
            -- mq: region
            refine CW.region ?_
            refine RW.move rfl rfl ?_
            -- mq: at
            refine RW.callA (R := fun _ v _ => IsI32 v) rfl ca53 rfl (fun w' hw' => by obtain ⟨A6, c6, he6, hrd6⟩ := Rd.of_own (E := EU8) (hw'.has Has.head) rfl; cases he6; exact number_c w' _ _ _ _ _ hrd6) (fun w1 w2 v hw1 he12 hw2 hlt2 hv => ?_)
            obtain ⟨r6, rfl⟩ := hv
            have hx12 := hw1.ext.trans0 he12
            have hcv1 := hw1.cov
            refine RW.move rfl rfl ?_
            -- mq: at
            refine RW.callA (R := fun _ v _ => IsI32 v) rfl ca53 rfl (fun w' hw' => by obtain ⟨A6, c6, he6, hrd6⟩ := Rd.of_own (E := EU8) (hw'.has (Has.tail Has.head)) rfl; cases he6; exact number_c w' _ _ _ _ _ hrd6) (fun w3 w4 v hw3 he34 hw4 hlt4 hv => ?_)
            obtain ⟨r7, rfl⟩ := hv
            have hx34 := hw3.ext.trans0 he34
            have hcv3 := hw3.cov
            have hE : ∀ cs w', SH w4 (feet [own 5 1 (.slice A4 L1.length c4) L1.length (EU8.all L1), own 5 1 (.slice A5 L2.length c5) L2.length (EU8.all L2)]) cs w' → SH w [] [] w' := fun cs w' h => SH.ofExt (hx12.trans (hx34.trans h.ext hcv3) hcv1)
            refine RW.assign rfl rfl ?_
            refine RW.assign rfl rfl ?_
            refine RW.nil (EX.seq (CW.seq (CW.seq ?_)))
            -- mq: region
            refine CW.sub (H' := SH w [] []) ?_ (Sub.refl _) (fun x hx => hE _ _ hx)
            refine CW.region ?_
            refine RW.move rfl rfl ?_
            refine RW.lss rfl rfl rfl ?_
            refine RW.move rfl rfl ?_
            -- mq: guard slot 44
            refine RW.casesB 44 rfl (fun h4 => ?_) (fun h4 => ?_)
            · skip
              have h4p := of_decide_eq_true h4
              refine RW.guardF rfl rfl rfl h4 ?_
              refine RW.guardF rfl rfl rfl h4 ?_
              refine RW.pickB rfl rfl h4 rfl ?_
              refine RW.nil (EX.seq ?_)
              -- mq: cond
              refine CW.condT rfl (rfl) ?_
              refine CW.exit (EX.seqE (EX.bkE (EX.seq (CW.region ?_))))
              refine RW.move rfl rfl ?_
              refine RW.add rfl rfl rfl (wrap64 (by omega) (by omega)) ?_
              refine RW.assign rfl rfl ?_
              refine RW.nil ?_
              -- mq: loopend
              exact EX.lpN (k + 1) ⟨by omega, by omega, by omega⟩ (by omega) (by repeat (first | exact Sub.nil | refine Sub.cons (by rfl) ?_)) (fun w' hw' => hw')
            · skip
              have h4p := of_decide_eq_false h4
              refine RW.guardT rfl rfl h4 ?_
              refine RW.move rfl rfl ?_
              refine RW.guardT rfl rfl h4 ?_
              refine RW.lss rfl rfl rfl ?_
              refine RW.pickC rfl rfl h4 rfl ?_
              refine RW.nil (EX.seq ?_)
              -- mq: cond
              first | refine CW.condD rfl (fun h5 => ?_) (fun h5 => ?_) | refine CW.cond rfl (fun h5 => ?_) (fun h5 => ?_)
              · skip
                refine CW.exit (EX.seqE (EX.bkE (EX.seq (CW.region ?_))))
                refine RW.move rfl rfl ?_
                refine RW.add rfl rfl rfl (wrap64 (by omega) (by omega)) ?_
                refine RW.assign rfl rfl ?_
                refine RW.nil ?_
                -- mq: loopend
                exact EX.lpN (k + 1) ⟨by omega, by omega, by omega⟩ (by omega) (by repeat (first | exact Sub.nil | refine Sub.cons (by rfl) ?_)) (fun w' hw' => hw')
              · skip
                refine CW.skip (EX.seq (CW.seq ?_))
                -- mq: region
                refine CW.joinI (fun t : Int × Int => [(0, .slice A n c), (3, .int .i64 (k : Int)), (6, .int .i32 r6), (7, .int .i32 r7), (8, .int .i32 t.1), (9, .int .i32 t.2)]) (fun _ => SH w [] []) (fun _ => True) ?_ ?_
                · skip
                  refine CW.drawU [1, 5] 4 [[(0, false, [2]), (3, false, [8]), (4, false, [6]), (7, false, [9])], [(0, false, [2]), (4, false, [6]), (3, false, [8]), (7, false, [9])], [(0, false, [2]), (4, false, [6]), (7, false, []), (3, false, [8, 9])], [(4, false, [6]), (0, false, [2]), (3, false, [8]), (7, false, [9])], [(4, false, [6]), (0, false, [2]), (7, false, []), (3, false, [8, 9])], [(4, false, [6]), (7, false, []), (0, false, [2]), (3, false, [8, 9])]] (fun _ => True) mixed (by kernel_rfl) (fun _ hw => hw.drew) (fun _ h => (by first | trivial | exact h | exact h.ch | exact (h.rem Rem.head).ch | exact ((h.rem Rem.head).rem Rem.head).ch | exact (((h.rem Rem.head).rem Rem.head).rem Rem.head).ch)) ?_
                  refine QuP.cons rfl (fun wq hq => (RW.move rfl rfl RW.jn)) ?_
                  refine QuP.cons rfl (fun wq hq => (RW.move rfl rfl RW.jn)) ?_
                  refine QuP.nil ?_
                  -- mq: orders [0, 4]
                  refine UW.step [_, _] rfl (List.forall_mem_cons.2 ⟨?_, List.forall_mem_cons.2 ⟨?_, by simp⟩⟩)
                  · skip
                    refine RW.buildSlc sl70 rfl rfl rfl rfl (fun g48 hg48 hf48 => ?_)
                    refine RW.st (fun _ => True) (fun _ h => .inr (by first | trivial | exact h | exact h.ch | exact (h.rem Rem.head).ch | exact ((h.rem Rem.head).rem Rem.head).ch | exact (((h.rem Rem.head).rem Rem.head).rem Rem.head).ch)) (fun _ h => trivial) ?_
                    refine QuP.cons rfl (fun wq hq => (RW.ixAddr (q := k) sl70 rfl rfl rfl (by first | rfl | assumption) (by omega) (by omega) RW.jn)) ?_
                    refine QuP.nil ?_
                    -- mq: orders [3, 4]
                    refine UW.step [_, _] rfl (List.forall_mem_cons.2 ⟨?_, List.forall_mem_cons.2 ⟨?_, by simp⟩⟩)
                    · skip
                      refine RW.load1 sc21 rfl rfl (fun w' hw' => by rw [Addr.add_lit]; exact hw'.blk_cell (xs := lowsL) (by first | exact Has.head | exact Has.tail Has.head) hva) ?_
                      refine RW.st (fun _ => True) (fun _ h => .inr ⟨.inr (by first | trivial | exact h | exact h.ch | exact (h.rem Rem.head).ch | exact ((h.rem Rem.head).rem Rem.head).ch | exact (((h.rem Rem.head).rem Rem.head).rem Rem.head).ch), trivial⟩) (fun _ h => trivial) ?_
                      refine QuP.cons rfl (fun wq hq => (RW.assign rfl rfl RW.jn)) ?_
                      refine QuP.nil ?_
                      refine UW.step [_] rfl (List.forall_mem_cons.2 ⟨?_, by simp⟩)
                      refine RW.buildSlc sl70 rfl rfl rfl rfl (fun g52 hg52 hf52 => ?_)
                      refine RW.st (fun _ => True) (fun _ h => .inr ⟨.inr ⟨.inr (by first | trivial | exact h | exact h.ch | exact (h.rem Rem.head).ch | exact ((h.rem Rem.head).rem Rem.head).ch | exact (((h.rem Rem.head).rem Rem.head).rem Rem.head).ch), trivial⟩, trivial⟩) (fun _ h => trivial) ?_
                      refine QuP.cons rfl (fun wq hq => (RW.ixAddr (q := k) sl70 rfl rfl rfl (by first | rfl | assumption) (by omega) (by omega) RW.jn)) ?_
                      refine QuP.nil ?_
                      refine UW.step [_] rfl (List.forall_mem_cons.2 ⟨?_, by simp⟩)
                      refine RW.load1 sc21 rfl rfl (fun w' hw' => by rw [Addr.add_lit]; exact hw'.blk_cell (xs := mostsL) (by first | exact Has.head | exact Has.tail Has.head) hvb) ?_
                      refine RW.st (fun _ => True) (fun _ h => .inr ⟨.inr ⟨.inr ⟨.inr (by first | trivial | exact h | exact h.ch | exact (h.rem Rem.head).ch | exact ((h.rem Rem.head).rem Rem.head).ch | exact (((h.rem Rem.head).rem Rem.head).rem Rem.head).ch), trivial⟩, trivial⟩, trivial⟩) (fun _ h => trivial) ?_
                      refine QuP.cons rfl (fun wq hq => (RW.assign rfl rfl RW.jn)) ?_
                      refine QuP.nil ?_
                      refine UW.nil ?_
                      -- mq: joinend
                      exact EX.jnI (va, vb) trivial (by repeat (first | exact Sub.nil | refine Sub.cons (by rfl) ?_)) (fun _ h => (h.rem Rem.head).rem Rem.head)
                    · skip
                      refine RW.buildSlc sl70 rfl rfl rfl rfl (fun g52 hg52 hf52 => ?_)
                      refine RW.st (fun _ => True) (fun _ h => .inr ⟨.inr (by first | trivial | exact h | exact h.ch | exact (h.rem Rem.head).ch | exact ((h.rem Rem.head).rem Rem.head).ch | exact (((h.rem Rem.head).rem Rem.head).rem Rem.head).ch), trivial⟩) (fun _ h => trivial) ?_
                      refine QuP.cons rfl (fun wq hq => (RW.ixAddr (q := k) sl70 rfl rfl rfl (by first | rfl | assumption) (by omega) (by omega) RW.jn)) ?_
                      refine QuP.nil ?_
                      -- mq: orders [3, 7]
                      refine UW.step [_, _] rfl (List.forall_mem_cons.2 ⟨?_, List.forall_mem_cons.2 ⟨?_, by simp⟩⟩)
                      · skip
                        refine RW.load1 sc21 rfl rfl (fun w' hw' => by rw [Addr.add_lit]; exact hw'.blk_cell (xs := lowsL) (by first | exact Has.head | exact Has.tail Has.head) hva) ?_
                        refine RW.st (fun _ => True) (fun _ h => .inr ⟨.inr ⟨.inr (by first | trivial | exact h | exact h.ch | exact (h.rem Rem.head).ch | exact ((h.rem Rem.head).rem Rem.head).ch | exact (((h.rem Rem.head).rem Rem.head).rem Rem.head).ch), trivial⟩, trivial⟩) (fun _ h => trivial) ?_
                        refine QuP.cons rfl (fun wq hq => (RW.assign rfl rfl RW.jn)) ?_
                        refine QuP.nil ?_
                        refine UW.step [_] rfl (List.forall_mem_cons.2 ⟨?_, by simp⟩)
                        refine RW.load1 sc21 rfl rfl (fun w' hw' => by rw [Addr.add_lit]; exact hw'.blk_cell (xs := mostsL) (by first | exact Has.head | exact Has.tail Has.head) hvb) ?_
                        refine RW.st (fun _ => True) (fun _ h => .inr ⟨.inr ⟨.inr ⟨.inr (by first | trivial | exact h | exact h.ch | exact (h.rem Rem.head).ch | exact ((h.rem Rem.head).rem Rem.head).ch | exact (((h.rem Rem.head).rem Rem.head).rem Rem.head).ch), trivial⟩, trivial⟩, trivial⟩) (fun _ h => trivial) ?_
                        refine QuP.cons rfl (fun wq hq => (RW.assign rfl rfl RW.jn)) ?_
                        refine QuP.nil ?_
                        refine UW.nil ?_
                        -- mq: joinend
                        exact EX.jnI (va, vb) trivial (by repeat (first | exact Sub.nil | refine Sub.cons (by rfl) ?_)) (fun _ h => (h.rem Rem.head).rem Rem.head)
                      · skip
                        refine RW.load1 sc21 rfl rfl (fun w' hw' => by rw [Addr.add_lit]; exact hw'.blk_cell (xs := mostsL) (by first | exact Has.head | exact Has.tail Has.head) hvb) ?_
                        refine RW.st (fun _ => True) (fun _ h => .inr ⟨.inr ⟨.inr (by first | trivial | exact h | exact h.ch | exact (h.rem Rem.head).ch | exact ((h.rem Rem.head).rem Rem.head).ch | exact (((h.rem Rem.head).rem Rem.head).rem Rem.head).ch), trivial⟩, trivial⟩) (fun _ h => trivial) ?_
                        refine QuP.nil ?_
                        refine UW.step [_] rfl (List.forall_mem_cons.2 ⟨?_, by simp⟩)
                        refine RW.load1 sc21 rfl rfl (fun w' hw' => by rw [Addr.add_lit]; exact hw'.blk_cell (xs := lowsL) (by first | exact Has.head | exact Has.tail Has.head) hva) ?_
                        refine RW.st (fun _ => True) (fun _ h => .inr ⟨.inr ⟨.inr ⟨.inr (by first | trivial | exact h | exact h.ch | exact (h.rem Rem.head).ch | exact ((h.rem Rem.head).rem Rem.head).ch | exact (((h.rem Rem.head).rem Rem.head).rem Rem.head).ch), trivial⟩, trivial⟩, trivial⟩) (fun _ h => trivial) ?_
                        refine QuP.cons rfl (fun wq hq => (RW.assign rfl rfl RW.jn)) ?_
                        refine QuP.cons rfl (fun wq hq => (RW.assign rfl rfl RW.jn)) ?_
                        refine QuP.nil ?_
                        refine UW.nil ?_
                        -- mq: joinend
                        exact EX.jnI (va, vb) trivial (by repeat (first | exact Sub.nil | refine Sub.cons (by rfl) ?_)) (fun _ h => (h.rem Rem.head).rem Rem.head)
                  · skip
                    refine RW.buildSlc sl70 rfl rfl rfl rfl (fun g52 hg52 hf52 => ?_)
                    refine RW.st (fun _ => True) (fun _ h => .inr (by first | trivial | exact h | exact h.ch | exact (h.rem Rem.head).ch | exact ((h.rem Rem.head).rem Rem.head).ch | exact (((h.rem Rem.head).rem Rem.head).rem Rem.head).ch)) (fun _ h => trivial) ?_
                    refine QuP.cons rfl (fun wq hq => (RW.ixAddr (q := k) sl70 rfl rfl rfl (by first | rfl | assumption) (by omega) (by omega) RW.jn)) ?_
                    refine QuP.nil ?_
                    -- mq: orders [0, 7]
                    refine UW.step [_, _] rfl (List.forall_mem_cons.2 ⟨?_, List.forall_mem_cons.2 ⟨?_, by simp⟩⟩)
                    · skip
                      refine RW.buildSlc sl70 rfl rfl rfl rfl (fun g48 hg48 hf48 => ?_)
                      refine RW.st (fun _ => True) (fun _ h => .inr ⟨.inr (by first | trivial | exact h | exact h.ch | exact (h.rem Rem.head).ch | exact ((h.rem Rem.head).rem Rem.head).ch | exact (((h.rem Rem.head).rem Rem.head).rem Rem.head).ch), trivial⟩) (fun _ h => trivial) ?_
                      refine QuP.cons rfl (fun wq hq => (RW.ixAddr (q := k) sl70 rfl rfl rfl (by first | rfl | assumption) (by omega) (by omega) RW.jn)) ?_
                      refine QuP.nil ?_
                      -- mq: orders [3, 7]
                      refine UW.step [_, _] rfl (List.forall_mem_cons.2 ⟨?_, List.forall_mem_cons.2 ⟨?_, by simp⟩⟩)
                      · skip
                        refine RW.load1 sc21 rfl rfl (fun w' hw' => by rw [Addr.add_lit]; exact hw'.blk_cell (xs := lowsL) (by first | exact Has.head | exact Has.tail Has.head) hva) ?_
                        refine RW.st (fun _ => True) (fun _ h => .inr ⟨.inr ⟨.inr (by first | trivial | exact h | exact h.ch | exact (h.rem Rem.head).ch | exact ((h.rem Rem.head).rem Rem.head).ch | exact (((h.rem Rem.head).rem Rem.head).rem Rem.head).ch), trivial⟩, trivial⟩) (fun _ h => trivial) ?_
                        refine QuP.cons rfl (fun wq hq => (RW.assign rfl rfl RW.jn)) ?_
                        refine QuP.nil ?_
                        refine UW.step [_] rfl (List.forall_mem_cons.2 ⟨?_, by simp⟩)
                        refine RW.load1 sc21 rfl rfl (fun w' hw' => by rw [Addr.add_lit]; exact hw'.blk_cell (xs := mostsL) (by first | exact Has.head | exact Has.tail Has.head) hvb) ?_
                        refine RW.st (fun _ => True) (fun _ h => .inr ⟨.inr ⟨.inr ⟨.inr (by first | trivial | exact h | exact h.ch | exact (h.rem Rem.head).ch | exact ((h.rem Rem.head).rem Rem.head).ch | exact (((h.rem Rem.head).rem Rem.head).rem Rem.head).ch), trivial⟩, trivial⟩, trivial⟩) (fun _ h => trivial) ?_
                        refine QuP.cons rfl (fun wq hq => (RW.assign rfl rfl RW.jn)) ?_
                        refine QuP.nil ?_
                        refine UW.nil ?_
                        -- mq: joinend
                        exact EX.jnI (va, vb) trivial (by repeat (first | exact Sub.nil | refine Sub.cons (by rfl) ?_)) (fun _ h => (h.rem Rem.head).rem Rem.head)
                      · skip
                        refine RW.load1 sc21 rfl rfl (fun w' hw' => by rw [Addr.add_lit]; exact hw'.blk_cell (xs := mostsL) (by first | exact Has.head | exact Has.tail Has.head) hvb) ?_
                        refine RW.st (fun _ => True) (fun _ h => .inr ⟨.inr ⟨.inr (by first | trivial | exact h | exact h.ch | exact (h.rem Rem.head).ch | exact ((h.rem Rem.head).rem Rem.head).ch | exact (((h.rem Rem.head).rem Rem.head).rem Rem.head).ch), trivial⟩, trivial⟩) (fun _ h => trivial) ?_
                        refine QuP.nil ?_
                        refine UW.step [_] rfl (List.forall_mem_cons.2 ⟨?_, by simp⟩)
                        refine RW.load1 sc21 rfl rfl (fun w' hw' => by rw [Addr.add_lit]; exact hw'.blk_cell (xs := lowsL) (by first | exact Has.head | exact Has.tail Has.head) hva) ?_
                        refine RW.st (fun _ => True) (fun _ h => .inr ⟨.inr ⟨.inr ⟨.inr (by first | trivial | exact h | exact h.ch | exact (h.rem Rem.head).ch | exact ((h.rem Rem.head).rem Rem.head).ch | exact (((h.rem Rem.head).rem Rem.head).rem Rem.head).ch), trivial⟩, trivial⟩, trivial⟩) (fun _ h => trivial) ?_
                        refine QuP.cons rfl (fun wq hq => (RW.assign rfl rfl RW.jn)) ?_
                        refine QuP.cons rfl (fun wq hq => (RW.assign rfl rfl RW.jn)) ?_
                        refine QuP.nil ?_
                        refine UW.nil ?_
                        -- mq: joinend
                        exact EX.jnI (va, vb) trivial (by repeat (first | exact Sub.nil | refine Sub.cons (by rfl) ?_)) (fun _ h => (h.rem Rem.head).rem Rem.head)
                    · skip
                      refine RW.load1 sc21 rfl rfl (fun w' hw' => by rw [Addr.add_lit]; exact hw'.blk_cell (xs := mostsL) (by first | exact Has.head | exact Has.tail Has.head) hvb) ?_
                      refine RW.st (fun _ => True) (fun _ h => .inr ⟨.inr (by first | trivial | exact h | exact h.ch | exact (h.rem Rem.head).ch | exact ((h.rem Rem.head).rem Rem.head).ch | exact (((h.rem Rem.head).rem Rem.head).rem Rem.head).ch), trivial⟩) (fun _ h => trivial) ?_
                      refine QuP.nil ?_
                      refine UW.step [_] rfl (List.forall_mem_cons.2 ⟨?_, by simp⟩)
                      refine RW.buildSlc sl70 rfl rfl rfl rfl (fun g48 hg48 hf48 => ?_)
                      refine RW.st (fun _ => True) (fun _ h => .inr ⟨.inr ⟨.inr (by first | trivial | exact h | exact h.ch | exact (h.rem Rem.head).ch | exact ((h.rem Rem.head).rem Rem.head).ch | exact (((h.rem Rem.head).rem Rem.head).rem Rem.head).ch), trivial⟩, trivial⟩) (fun _ h => trivial) ?_
                      refine QuP.cons rfl (fun wq hq => (RW.ixAddr (q := k) sl70 rfl rfl rfl (by first | rfl | assumption) (by omega) (by omega) RW.jn)) ?_
                      refine QuP.nil ?_
                      refine UW.step [_] rfl (List.forall_mem_cons.2 ⟨?_, by simp⟩)
                      refine RW.load1 sc21 rfl rfl (fun w' hw' => by rw [Addr.add_lit]; exact hw'.blk_cell (xs := lowsL) (by first | exact Has.head | exact Has.tail Has.head) hva) ?_
                      refine RW.st (fun _ => True) (fun _ h => .inr ⟨.inr ⟨.inr ⟨.inr (by first | trivial | exact h | exact h.ch | exact (h.rem Rem.head).ch | exact ((h.rem Rem.head).rem Rem.head).ch | exact (((h.rem Rem.head).rem Rem.head).rem Rem.head).ch), trivial⟩, trivial⟩, trivial⟩) (fun _ h => trivial) ?_
                      refine QuP.cons rfl (fun wq hq => (RW.assign rfl rfl RW.jn)) ?_
                      refine QuP.cons rfl (fun wq hq => (RW.assign rfl rfl RW.jn)) ?_
                      refine QuP.nil ?_
                      refine UW.nil ?_
                      -- mq: joinend
                      exact EX.jnI (va, vb) trivial (by repeat (first | exact Sub.nil | refine Sub.cons (by rfl) ?_)) (fun _ h => (h.rem Rem.head).rem Rem.head)
                · skip
                  rintro ⟨a8, a9⟩ _
                  dsimp only
                  refine EX.seq (CW.seq (CW.region ?_))
                  refine RW.move rfl rfl ?_
                  refine RW.move rfl rfl ?_
                  refine RW.max2 rfl rfl rfl ?_
                  refine RW.move rfl rfl ?_
                  refine RW.move rfl rfl ?_
                  refine RW.min2 rfl rfl rfl ?_
                  refine RW.assign rfl rfl ?_
                  refine RW.assign rfl rfl ?_
                  refine RW.nil (EX.seq (CW.seq (CW.region ?_)))
                  refine RW.move rfl rfl ?_
                  refine RW.move rfl rfl ?_
                  refine RW.leq rfl rfl rfl ?_
                  refine RW.move rfl rfl ?_
                  -- mq: guard slot 65
                  generalize max r6 a8 = lo
                  generalize min r7 a9 = hi
                  refine RW.casesB 65 rfl (fun s1 => ?_) (fun s1 => ?_)
                  · skip
                    have s1p := of_decide_eq_true s1
                    refine RW.guardT rfl rfl s1 ?_
                    refine RW.move rfl rfl ?_
                    refine RW.guardT rfl rfl s1 ?_
                    refine RW.geq rfl rfl rfl ?_
                    refine RW.guardT rfl rfl s1 ?_
                    refine RW.move rfl rfl ?_
                    -- mq: guard slot 68
                    refine RW.casesB 68 rfl (fun s2 => ?_) (fun s2 => ?_)
                    · skip
                      have s2p := of_decide_eq_true s2
                      refine RW.guardT rfl rfl s2 ?_
                      refine RW.move rfl rfl ?_
                      refine RW.guardT rfl rfl s2 ?_
                      refine RW.leq rfl rfl rfl ?_
                      refine RW.guardT rfl rfl s1 ?_
                      refine RW.pickB rfl rfl s2 rfl ?_
                      refine RW.guardT rfl rfl s1 ?_
                      refine RW.not_ rfl rfl ?_
                      refine RW.pickB rfl rfl s1 rfl ?_
                      refine RW.nil (EX.seq ?_)
                      -- mq: cond
                      first | refine CW.condD rfl (fun s3 => ?_) (fun s3 => ?_) | refine CW.cond rfl (fun s3 => ?_) (fun s3 => ?_)
                      · skip
                        refine CW.seq (CW.region ?_)
                        refine RW.assign rfl rfl ?_
                        refine RW.nil (EX.seq (CW.ret (EX.bkR (EX.seqR (EX.lpR (EX.bkR (EX.seqR ?_)))))))
                        refine EX.fin1 Try.results54 rfl (fun wz hw => ?_)
                        -- mq: done
                        exact ⟨_, rfl, hw.ext, _, rfl⟩
                      · skip
                        refine CW.skip (EX.bkN (EX.seq (CW.region ?_)))
                        refine RW.move rfl rfl ?_
                        refine RW.add rfl rfl rfl (wrap64 (by omega) (by omega)) ?_
                        refine RW.assign rfl rfl ?_
                        refine RW.nil ?_
                        -- mq: loopend
                        exact EX.lpN (k + 1) ⟨by omega, by omega, by omega⟩ (by omega) (by repeat (first | exact Sub.nil | refine Sub.cons (by rfl) ?_)) (fun w' hw' => hw')
                    · skip
                      have s2p := of_decide_eq_false s2
                      refine RW.guardF rfl rfl rfl s2 ?_
                      refine RW.guardF rfl rfl rfl s2 ?_
                      refine RW.guardT rfl rfl s1 ?_
                      refine RW.pickC rfl rfl s2 rfl ?_
                      refine RW.guardT rfl rfl s1 ?_
                      refine RW.not_ rfl rfl ?_
                      refine RW.pickB rfl rfl s1 rfl ?_
                      refine RW.nil (EX.seq ?_)
                      -- mq: cond
                      refine CW.condT rfl (rfl) ?_
                      refine CW.seq (CW.region ?_)
                      refine RW.assign rfl rfl ?_
                      refine RW.nil (EX.seq (CW.ret (EX.bkR (EX.seqR (EX.lpR (EX.bkR (EX.seqR ?_)))))))
                      refine EX.fin1 Try.results54 rfl (fun wz hw => ?_)
                      -- mq: done
                      exact ⟨_, rfl, hw.ext, _, rfl⟩
                  · skip
                    have s1p := of_decide_eq_false s1
                    refine RW.guardF rfl rfl rfl s1 ?_
                    refine RW.guardF rfl rfl rfl s1 ?_
                    refine RW.guardF rfl rfl rfl s1 ?_
                    refine RW.guardU rfl rfl rfl ?_
                    refine RW.guardU rfl rfl rfl ?_
                    refine RW.guardF rfl rfl rfl s1 ?_
                    refine RW.guardF rfl rfl rfl s1 ?_
                    refine RW.pickC rfl rfl s1 rfl ?_
                    refine RW.nil (EX.seq ?_)
                    -- mq: cond
                    refine CW.condF rfl (rfl) ?_
                    refine CW.skip (EX.bkN (EX.seq (CW.region ?_)))
                    refine RW.move rfl rfl ?_
                    refine RW.add rfl rfl rfl (wrap64 (by omega) (by omega)) ?_
                    refine RW.assign rfl rfl ?_
                    refine RW.nil ?_
                    -- mq: loopend
                    exact EX.lpN (k + 1) ⟨by omega, by omega, by omega⟩ (by omega) (by repeat (first | exact Sub.nil | refine Sub.cons (by rfl) ?_)) (fun w' hw' => hw')
      · skip
        refine CW.exit (EX.seqE (EX.lpE (EX.bkE (EX.seq (CW.seq (CW.region ?_))))))
        refine RW.assign rfl rfl ?_
        refine RW.nil (EX.seq (CW.ret ?_))
        refine EX.fin1 Try.results54 rfl (fun wz hw => ?_)
        -- mq: done
        exact ⟨_, rfl, hw.ext, _, rfl⟩
    · skip
      have h1p := of_decide_eq_false h1
      refine RW.guardF rfl rfl rfl h1 ?_
      refine RW.guardF rfl rfl rfl h1 ?_
      refine RW.guardF rfl rfl rfl h1 ?_
      refine RW.pickC rfl rfl h1 rfl ?_
      refine RW.nil (EX.seq ?_)
      -- mq: cond
      refine CW.condF rfl (rfl) ?_
      refine CW.exit (EX.seqE (EX.lpE (EX.bkE (EX.seq (CW.seq (CW.region ?_))))))
      refine RW.assign rfl rfl ?_
      refine RW.nil (EX.seq (CW.ret ?_))
      refine EX.fin1 Try.results54 rfl (fun wz hw => ?_)
      -- mq: done
      exact ⟨_, rfl, hw.ext, _, rfl⟩
end Go.Proofs.Ytjmmikdbhhomiaa.Mq
