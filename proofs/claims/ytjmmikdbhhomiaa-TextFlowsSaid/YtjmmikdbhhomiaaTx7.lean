/- text: the document's decoder: One, All; its widths, marks (printed by gen_tx7.py) -/
import Derived.Test.YtjmmikdbhhomiaaTx6
import Derived.Test.YtjmmikdbhhomiaaByt
namespace Go.Proofs.Ytjmmikdbhhomiaa.Mq
open Go Go.RowKit Go.Proofs

def IsOne (n : Nat) (v : Value) : Prop := ∃ (r : Int) (k : Nat), v = .tuple #[.int .i32 r, .int .i64 (k : Int)] ∧ 1 ≤ k ∧ k ≤ n
theorem one_c (w : World) (F : Nat → Prop) (A : Option Addr) (n c : Nat) (b : List UInt8) (hr : Rd EU8 w F A n c b) (hn1 : 1 ≤ n) (hn : n ≤ 1000000) :
    Calls Try.prog 42 [.slice A n c].toArray w (RetA (fun v _ => IsOne n v) w) := by
  have hl := hr.len
  have hcap := hr.cap
  have hsl : ∀ k, 1 ≤ k → k ≤ n → Rd EU8 w F (if c = 0 then A else A.map (·.add (0 * 1))) (k - 0) (c - 0) ((b.take k).drop 0) := fun k h1 h2 => hr.cut (p := 0) (q := k) (by omega) (by omega)
  refine calls (n := 42) Try.func42 rfl Try.ntmps42 rfl ?_
  refine CW.sub (H' := SH w [] []) ?_ (Sub.refl _) (fun x hx => SH.start' _ _ hx)
  refine CW.seq (CW.region ?_)
  refine RW.assign rfl rfl ?_
  refine RW.assign rfl rfl ?_
  refine RW.nil (EX.seq (CW.seq (CW.seq (CW.region ?_))))
  refine RW.assign rfl rfl ?_
  refine RW.nil (EX.seq (CW.block ?_))
  -- mq: loop
  refine CW.loop (ι := Nat) (fun k => [(0, .slice A n c), (4, .int .i64 (k : Int))]) (fun _ => SH w [] []) (fun k => 1 ≤ k ∧ k ≤ 5) (fun k => 5 - k) ?_ ?_
  · exact fun w' hw' => ⟨1, ⟨Nat.le_refl _, by omega⟩, (by repeat (first | exact Sub.nil | refine Sub.cons (by rfl) ?_)), hw'⟩
  · rintro k ⟨hk1, hk5⟩
    refine CW.seq (CW.seq ?_)
    -- mq: region
    refine CW.joinI (fun b : Bool => [(0, .slice A n c), (4, .int .i64 (k : Int)), (14, .bool b)]) (fun _ => SH w [] []) (fun b => (b = true ↔ k ≤ 4 ∧ k ≤ n)) ?_ ?_
    · skip
      refine CW.region ?_
      refine RW.move rfl rfl ?_
      refine RW.leq rfl rfl rfl ?_
      refine RW.move rfl rfl ?_
      -- mq: guard slot 9
      refine RW.casesB 9 rfl (fun g1 => ?_) (fun g1 => ?_)
      · skip
        have g1p := of_decide_eq_true g1
        refine RW.guardT rfl rfl g1 ?_
        refine RW.move rfl rfl ?_
        refine RW.guardT rfl rfl g1 ?_
        refine RW.move rfl rfl ?_
        refine RW.guardT rfl rfl g1 ?_
        refine RW.lenSl Try.underlying59 rfl rfl ?_
        refine RW.guardT rfl rfl g1 ?_
        refine RW.leq rfl rfl rfl ?_
        refine RW.pickB rfl rfl g1 rfl ?_
        refine RW.nil ?_
        -- mq: joinend
        exact EX.jnI (decide ((k : Int) ≤ (n : Int))) (by rw [decide_eq_true_eq]; omega) (by repeat (first | exact Sub.nil | refine Sub.cons (by rfl) ?_)) (fun _ h => h)
      · skip
        have g1p := of_decide_eq_false g1
        refine RW.guardF rfl rfl rfl g1 ?_
        refine RW.guardF rfl rfl rfl g1 ?_
        refine RW.guardF rfl rfl rfl g1 ?_
        refine RW.guardF rfl rfl rfl g1 ?_
        refine RW.pickC rfl rfl g1 rfl ?_
        refine RW.nil ?_
        -- mq: joinend
        exact EX.jnI false (by constructor; · intro h; cases h
                               · intro h; omega) (by repeat (first | exact Sub.nil | refine Sub.cons (by rfl) ?_)) (fun _ h => h)
    · skip
      intro b1 hb1
      refine EX.seq ?_
      -- mq: cond
      first | refine CW.condD rfl (fun h1 => ?_) (fun h1 => ?_) | refine CW.cond rfl (fun h1 => ?_) (fun h1 => ?_)
      · skip
        obtain ⟨h4, hkn⟩ := hb1.1 h1
        have hs := hsl k hk1 hkn
        refine CW.skip (EX.seq (CW.seq (CW.block (CW.seq ?_))))
        -- mq: region
        refine CW.region ?_
        refine RW.move rfl rfl ?_
        refine RW.move rfl rfl ?_
        refine RW.sliceSl 0 k sl59 rfl rfl (.inr ⟨rfl, rfl⟩) (.inl ⟨_, _, rfl, rfl, rfl⟩) (by omega) (by omega) ?_
        -- mq: at
        refine RW.callA (R := fun _ v _ => IsBool v) rfl ca52 rfl (fun w' hw' => is_c w' F _ _ _ _ (hs.ext hw'.ext (by simp))) (fun w1 w2 v hw1 he12 hw2 hlt2 hv => ?_)
        obtain ⟨bb, rfl⟩ := hv
        have hx12 : Ext [] w w2 := hw1.ext.trans0 he12
        refine RW.nil (EX.seq ?_)
        -- mq: cond
        refine CW.sub (H' := SH w [] []) ?_ (Sub.refl _) (fun x hx => SH.ofExt (hx12.trans0 hx.ext))
        first | refine CW.condD rfl (fun h2 => ?_) (fun h2 => ?_) | refine CW.cond rfl (fun h2 => ?_) (fun h2 => ?_)
        · skip
          refine CW.seq ?_
          -- mq: region
          refine CW.region ?_
          refine RW.move rfl rfl ?_
          refine RW.move rfl rfl ?_
          refine RW.sliceSl 0 k sl59 rfl rfl (.inr ⟨rfl, rfl⟩) (.inl ⟨_, _, rfl, rfl, rfl⟩) (by omega) (by omega) ?_
          -- mq: at
          refine RW.callA (R := fun _ v _ => IsI32 v) rfl ca53 rfl (fun w' hw' => number_c w' F _ _ _ _ (hs.ext hw'.ext (by simp))) (fun w3 w4 v hw3 he34 hw4 hlt4 hv => ?_)
          obtain ⟨r, rfl⟩ := hv
          refine RW.move rfl rfl ?_
          refine RW.assign rfl rfl ?_
          refine RW.assign rfl rfl ?_
          refine RW.nil (EX.seq (CW.ret (EX.bkR (EX.seqR (EX.lpR (EX.bkR (EX.seqR ?_)))))))
          refine EX.fin2 Try.results42 rfl rfl (fun wz hw => ?_)
          -- mq: done
          exact ⟨_, rfl, (hw3.ext.trans0 he34).trans0 hw.ext, r, k, rfl, hk1, hkn⟩
        · skip
          refine CW.skip (EX.bkN (EX.seq (CW.region ?_)))
          refine RW.move rfl rfl ?_
          refine RW.add rfl rfl rfl (wrap64 (by omega) (by omega)) ?_
          refine RW.assign rfl rfl ?_
          refine RW.nil ?_
          -- mq: loopend
          exact EX.lpN (k + 1) ⟨by omega, by omega⟩ (by omega) (by repeat (first | exact Sub.nil | refine Sub.cons (by rfl) ?_)) (fun w' hw' => hw')
      · skip
        refine CW.exit (EX.seqE (EX.lpE (EX.bkE (EX.seq (CW.seq (CW.region ?_))))))
        refine RW.assign rfl rfl ?_
        refine RW.nil (EX.seq (CW.seq (CW.seq (CW.region ?_))))
        refine RW.assign rfl rfl ?_
        refine RW.nil (EX.seq (CW.block ?_))
        -- mq: loop
        refine CW.loop (ι := Nat × Nat) (fun t => [(0, .slice A n c), (5, .int .i64 (t.2 : Int)), (6, .int .i64 (t.1 : Int))]) (fun _ => SH w [] []) (fun t => 1 ≤ t.1 ∧ t.1 ≤ 4 ∧ 1 ≤ t.2 ∧ t.2 ≤ n) (fun t => 4 - t.1) ?_ ?_
        · exact fun w' hw' => ⟨(1, 1), ⟨Nat.le_refl _, by decide, Nat.le_refl _, hn1⟩, (by repeat (first | exact Sub.nil | refine Sub.cons (by rfl) ?_)), hw'⟩
        · rintro ⟨j, z⟩ ⟨hj1, hj4, hz1, hzn⟩
          dsimp only at hj1 hj4 hz1 hzn ⊢
          refine CW.seq (CW.seq ?_)
          -- mq: region
          refine CW.joinI (fun b : Bool => [(0, .slice A n c), (5, .int .i64 (z : Int)), (6, .int .i64 (j : Int)), (33, .bool b)]) (fun _ => SH w [] []) (fun b => (b = true ↔ j ≤ 3 ∧ j ≤ n)) ?_ ?_
          · skip
            refine CW.region ?_
            refine RW.move rfl rfl ?_
            refine RW.leq rfl rfl rfl ?_
            refine RW.move rfl rfl ?_
            -- mq: guard slot 28
            refine RW.casesB 28 rfl (fun g2 => ?_) (fun g2 => ?_)
            · skip
              have g2p := of_decide_eq_true g2
              refine RW.guardT rfl rfl g2 ?_
              refine RW.move rfl rfl ?_
              refine RW.guardT rfl rfl g2 ?_
              refine RW.move rfl rfl ?_
              refine RW.guardT rfl rfl g2 ?_
              refine RW.lenSl Try.underlying59 rfl rfl ?_
              refine RW.guardT rfl rfl g2 ?_
              refine RW.leq rfl rfl rfl ?_
              refine RW.pickB rfl rfl g2 rfl ?_
              refine RW.nil ?_
              -- mq: joinend
              exact EX.jnI (decide ((j : Int) ≤ (n : Int))) (by rw [decide_eq_true_eq]; omega) (by repeat (first | exact Sub.nil | refine Sub.cons (by rfl) ?_)) (fun _ h => h)
            · skip
              have g2p := of_decide_eq_false g2
              refine RW.guardF rfl rfl rfl g2 ?_
              refine RW.guardF rfl rfl rfl g2 ?_
              refine RW.guardF rfl rfl rfl g2 ?_
              refine RW.guardF rfl rfl rfl g2 ?_
              refine RW.pickC rfl rfl g2 rfl ?_
              refine RW.nil ?_
              -- mq: joinend
              exact EX.jnI false (by constructor; · intro h; cases h
                                     · intro h; omega) (by repeat (first | exact Sub.nil | refine Sub.cons (by rfl) ?_)) (fun _ h => h)
          · skip
            intro b2 hb2
            refine EX.seq ?_
            -- mq: cond
            first | refine CW.condD rfl (fun h3 => ?_) (fun h3 => ?_) | refine CW.cond rfl (fun h3 => ?_) (fun h3 => ?_)
            · skip
              obtain ⟨h3a, hjn⟩ := hb2.1 h3
              have hs := hsl j hj1 hjn
              refine CW.skip (EX.seq (CW.seq (CW.block (CW.seq ?_))))
              -- mq: region
              refine CW.region ?_
              refine RW.move rfl rfl ?_
              refine RW.move rfl rfl ?_
              refine RW.sliceSl 0 j sl59 rfl rfl (.inr ⟨rfl, rfl⟩) (.inl ⟨_, _, rfl, rfl, rfl⟩) (by omega) (by omega) ?_
              -- mq: at
              refine RW.callA (R := fun _ v _ => IsBool v) rfl ca54 rfl (fun w' hw' => begins_c w' F _ _ _ _ (hs.ext hw'.ext (by simp)) (by omega)) (fun w1 w2 v hw1 he12 hw2 hlt2 hv => ?_)
              obtain ⟨bb, rfl⟩ := hv
              have hx12 : Ext [] w w2 := hw1.ext.trans0 he12
              refine RW.nil (EX.seq ?_)
              -- mq: cond
              refine CW.sub (H' := SH w [] []) ?_ (Sub.refl _) (fun x hx => SH.ofExt (hx12.trans0 hx.ext))
              first | refine CW.condD rfl (fun h5 => ?_) (fun h5 => ?_) | refine CW.cond rfl (fun h5 => ?_) (fun h5 => ?_)
              · skip
                refine CW.region ?_
                refine RW.move rfl rfl ?_
                refine RW.assign rfl rfl ?_
                refine RW.nil (EX.bkN (EX.seq (CW.region ?_)))
                refine RW.move rfl rfl ?_
                refine RW.add rfl rfl rfl (wrap64 (by omega) (by omega)) ?_
                refine RW.assign rfl rfl ?_
                refine RW.nil ?_
                -- mq: loopend
                exact EX.lpN (j + 1, j) ⟨by dsimp only; omega, by dsimp only; omega, by dsimp only; omega, by dsimp only; omega⟩ (by dsimp only; omega) (by repeat (first | exact Sub.nil | refine Sub.cons (by rfl) ?_)) (fun w' hw' => hw')
              · skip
                refine CW.skip (EX.bkN (EX.seq (CW.region ?_)))
                refine RW.move rfl rfl ?_
                refine RW.add rfl rfl rfl (wrap64 (by omega) (by omega)) ?_
                refine RW.assign rfl rfl ?_
                refine RW.nil ?_
                -- mq: loopend
                exact EX.lpN (j + 1, z) ⟨by dsimp only; omega, by dsimp only; omega, by dsimp only; omega, by dsimp only; omega⟩ (by dsimp only; omega) (by repeat (first | exact Sub.nil | refine Sub.cons (by rfl) ?_)) (fun w' hw' => hw')
            · skip
              refine CW.exit (EX.seqE (EX.lpE (EX.bkE (EX.seq (CW.seq (CW.region ?_))))))
              refine RW.move rfl rfl ?_
              refine RW.assign rfl rfl ?_
              refine RW.assign rfl rfl ?_
              refine RW.nil (EX.seq (CW.ret ?_))
              refine EX.fin2 Try.results42 rfl rfl (fun wz hw => ?_)
              -- mq: done
              exact ⟨_, rfl, hw.ext, _, z, rfl, hz1, hzn⟩
/-- some runes, in new memory -/
def IsRun (m : Nat) (w0 : World) (v : Value) (w1 : World) : Prop := ∃ A n c l, v = .slice A n c ∧ n ≤ m ∧ Rd EI32 w1 (fun k => w0.heap.size ≤ k) A n c l
theorem all_c (w : World) (F : Nat → Prop) (A : Option Addr) (n c : Nat) (b : List UInt8) (hr : Rd EU8 w F A n c b) (hn : n ≤ 1000000) :
    Calls Try.prog 29 [.slice A n c].toArray w (RetA (IsRun n w) w) := by
  refine calls (n := 22) Try.func29 rfl Try.ntmps29 rfl ?_
  refine CW.sub (H' := SH w [] []) ?_ (Sub.refl _) (fun x hx => SH.start' _ _ hx)
  refine CW.seq (CW.region ?_)
  refine RW.assign rfl rfl ?_
  refine RW.nil (EX.seq (CW.seq ?_))
  -- mq: region
  refine CW.ownNil 21 1 ?_
  refine CW.region ?_
  refine RW.assign rfl rfl ?_
  refine RW.nil (EX.seq (CW.seq (CW.block ?_)))
  -- mq: loop
  refine CW.loop (ι := (Option Addr × Nat × Nat × List UInt8) × Value × List Int) (fun t => [(0, .slice t.1.1 t.1.2.1 t.1.2.2.1), (3, t.2.1)]) (fun t => SH w [] [own 21 1 t.2.1 t.2.2.length (EI32.all t.2.2)]) (fun t => Rd EU8 w F t.1.1 t.1.2.1 t.1.2.2.1 t.1.2.2.2 ∧ t.1.2.1 + t.2.2.length ≤ n) (fun t => t.1.2.1) ?_ ?_
  · exact fun w' hw' => ⟨((A, n, c, b), _, []), ⟨hr, Nat.le_refl _⟩, (by repeat (first | exact Sub.nil | refine Sub.cons (by rfl) ?_)), hw'⟩
  · rintro ⟨⟨A1, n1, c1, b1⟩, v, L⟩ ⟨hr1, hL⟩
    dsimp only at hr1 hL ⊢
    have hc1 := hr1.cap
    refine CW.seq (CW.seq (CW.region ?_))
    refine RW.move rfl rfl ?_
    refine RW.lenSl Try.underlying59 rfl rfl ?_
    refine RW.gtr rfl rfl rfl ?_
    refine RW.nil (EX.seq ?_)
    -- mq: cond
    first | refine CW.condD rfl (fun hpos => ?_) (fun hpos => ?_) | refine CW.cond rfl (fun hpos => ?_) (fun hpos => ?_)
    · skip
      refine CW.skip (EX.seq (CW.block (CW.seq ?_)))
      -- mq: region
      refine CW.region ?_
      refine RW.move rfl rfl ?_
      -- mq: at
      refine RW.callA (R := fun _ v _ => IsOne n1 v) rfl ca42 rfl (fun w' hw' => one_c w' F A1 n1 c1 b1 (hr1.ext hw'.ext (by simp)) (by omega) (by omega)) (fun w1 w2 v2 hw1 he12 hw2 hlt2 hv => ?_)
      obtain ⟨r, k, rfl, hk1, hkn⟩ := hv
      have hx12 := hw1.ext.trans0 he12
      have hcv := hw1.cov
      refine RW.move rfl rfl ?_
      refine RW.extract rfl rfl rfl ?_
      refine RW.extract rfl rfl rfl ?_
      refine RW.assign rfl rfl ?_
      refine RW.assign rfl rfl ?_
      refine RW.nil (EX.seq (CW.seq (CW.region ?_)))
      refine RW.move rfl rfl ?_
      refine RW.move rfl rfl ?_
      refine RW.buildSlc sl70 rfl rfl rfl rfl (fun g16 hg16 hf16 => ?_)
      refine RW.append1 sl70 rfl rfl rfl (by first | exact Rem.head | exact Rem.tail Rem.head | exact Rem.tail (Rem.tail Rem.head) | exact Rem.tail (Rem.tail (Rem.tail Rem.head)) | exact Rem.tail (Rem.tail (Rem.tail (Rem.tail Rem.head))) | exact Rem.tail (Rem.tail (Rem.tail (Rem.tail (Rem.tail Rem.head)))) | exact Rem.tail (Rem.tail (Rem.tail (Rem.tail (Rem.tail (Rem.tail Rem.head)))))) (fun _ => by first | exact Upd.head | exact Upd.tail Upd.head | exact Upd.tail (Upd.tail Upd.head) | exact Upd.tail (Upd.tail (Upd.tail Upd.head)) | exact Upd.tail (Upd.tail (Upd.tail (Upd.tail Upd.head))) | exact Upd.tail (Upd.tail (Upd.tail (Upd.tail (Upd.tail Upd.head)))) | exact Upd.tail (Upd.tail (Upd.tail (Upd.tail (Upd.tail (Upd.tail Upd.head)))))) rfl (by repeat (first | exact Ones.nil | exact Enc.ones _ _ | refine Ones.cons rfl ?_)) (by simp only [maxLen]; omega) (by omega) (fun v17 hv17 => ?_)
      refine RW.assign rfl rfl ?_
      refine RW.nil (EX.seq ?_)
      -- mq: region
      refine CW.region ?_
      refine RW.move rfl rfl ?_
      refine RW.move rfl rfl ?_
      refine RW.sliceSl k n1 sl59 rfl rfl (.inl ⟨_, _, rfl, rfl, rfl⟩) (.inr ⟨rfl, rfl⟩) (by omega) (by omega) ?_
      refine RW.assign rfl rfl ?_
      refine RW.nil (EX.bkN ?_)
      -- mq: loopend
      refine EX.lpN ((if c1 = k then A1 else A1.map (·.add (k * 1)), n1 - k, c1 - k, (b1.take n1).drop k), v17, L ++ [r]) ⟨hr1.cut (p := k) (q := n1) (by omega) (Nat.le_refl _), by dsimp only; rw [List.length_append, List.length_singleton]; omega⟩ (by dsimp only; omega) (by repeat (first | exact Sub.nil | refine Sub.cons (by rfl) ?_)) (fun w' hw' => ?_)
      dsimp only
      rw [Enc.all_snoc EI32, List.length_append]
      exact hw'.unbase hx12 hcv
    · skip
      refine CW.exit (EX.seqE (EX.lpE (EX.bkE (EX.seq (CW.seq (CW.region ?_))))))
      refine RW.move rfl rfl ?_
      refine RW.assign rfl rfl ?_
      refine RW.nil (EX.seq (CW.ret ?_))
      refine EX.fin1 Try.results29 rfl (fun wz hw => ?_)
      -- mq: done
      have hcv := hw.cov
      obtain ⟨A7, c7, hv7, hrd7⟩ := Rd.of_own (E := EI32) (hw.has Has.head) rfl
      subst hv7
      exact ⟨_, rfl, hw.ext, A7, L.length, c7, L, rfl, by omega, hrd7.weak fun k hk => Nat.le_of_not_lt fun hlt => by have := hcv k (by simp [feet, own, hk]) hlt; simp at this⟩
def marksN : List Int := [768, 879, 1155, 1161, 1425, 1469, 1552, 1562, 1611, 1631, 2304, 2306, 2364, 2364, 2369, 2376, 3633, 3633, 3636, 3642, 6832, 6911, 7616, 7679, 8203, 8207, 8400, 8447, 8288, 8292, 65024, 65039, 65056, 65071, 65279, 65279, 917760, 917999]
def widesN : List Int := [4352, 4447, 8986, 8987, 9001, 9002, 9193, 9196, 9725, 9726, 9748, 9749, 11904, 12350, 12353, 13311, 13312, 19903, 19968, 40959, 40960, 42191, 43360, 43391, 44032, 55203, 63744, 64255, 65072, 65135, 65280, 65376, 65504, 65510, 127744, 128591, 128640, 128767, 129280, 129535, 131072, 196605, 196608, 262141]
def IsPair (w0 : World) (v : Value) (w1 : World) : Prop := ∃ A n c l, v = .slice A n c ∧ n % 2 = 0 ∧ n ≤ 100 ∧ Rd EI32 w1 (fun k => w0.heap.size ≤ k) A n c l
theorem marksN_c (w : World) : Calls Try.prog 27 [].toArray w (RetA (IsPair w) w) := by
  refine calls (n := 2) Try.func27 rfl Try.ntmps27 rfl ?_
  refine CW.sub (H' := SH w [] []) ?_ (Sub.refl _) (fun x hx => SH.start' _ _ hx)
  refine CW.seq (CW.region ?_)
  refine RW.assign rfl rfl ?_
  refine RW.nil (EX.seq (CW.seq (CW.region ?_)))
  refine RW.buildSlc sl70 rfl rfl rfl rfl (fun g1 hg1 hf1 => ?_)
  refine RW.assign rfl rfl ?_
  refine RW.nil (EX.seq (CW.ret ?_))
  refine EX.fin1 Try.results27 rfl (fun wz hw => ?_)
  -- mq: done
  have hrd := Rd.of_blk (E := EI32) (L := marksN) hw Has.head rfl (by decide)
  exact ⟨_, rfl, hw.ext, _, _, _, _, rfl, by decide, by decide, hrd.weak (fun k hk => by rw [hk]; assumption)⟩
theorem widesN_c (w : World) : Calls Try.prog 28 [].toArray w (RetA (IsPair w) w) := by
  refine calls (n := 2) Try.func28 rfl Try.ntmps28 rfl ?_
  refine CW.sub (H' := SH w [] []) ?_ (Sub.refl _) (fun x hx => SH.start' _ _ hx)
  refine CW.seq (CW.region ?_)
  refine RW.assign rfl rfl ?_
  refine RW.nil (EX.seq (CW.seq (CW.region ?_)))
  refine RW.buildSlc sl70 rfl rfl rfl rfl (fun g1 hg1 hf1 => ?_)
  refine RW.assign rfl rfl ?_
  refine RW.nil (EX.seq (CW.ret ?_))
  refine EX.fin1 Try.results28 rfl (fun wz hw => ?_)
  -- mq: done
  have hrd := Rd.of_blk (E := EI32) (L := widesN) hw Has.head rfl (by decide)
  exact ⟨_, rfl, hw.ext, _, _, _, _, rfl, by decide, by decide, hrd.weak (fun k hk => by rw [hk]; assumption)⟩
theorem in_c (w : World) (F : Nat → Prop) (A : Option Addr) (n c : Nat) (L : List Int) (r : Int) (hr : Rd EI32 w F A n c L) (h2 : n % 2 = 0) (hn : n ≤ 100) :
    Calls Try.prog 26 [.slice A n c, .int .i32 r].toArray w (RetA (fun v _ => IsBool v) w) := by
  have hl := hr.len
  refine calls (n := 27) Try.func26 rfl Try.ntmps26 rfl ?_
  refine CW.sub (H' := SH w [] []) ?_ (Sub.refl _) (fun x hx => SH.start' _ _ hx)
  refine CW.seq (CW.region ?_)
  refine RW.assign rfl rfl ?_
  refine RW.nil (EX.seq (CW.seq (CW.seq (CW.region ?_))))
  refine RW.assign rfl rfl ?_
  refine RW.nil (EX.seq (CW.block ?_))
  -- mq: loop
  refine CW.loop (ι := Nat) (fun i => [(0, .slice A n c), (1, .int .i32 r), (5, .int .i64 ((2 * i : Nat) : Int))]) (fun _ => SH w [] []) (fun i => 2 * i ≤ n) (fun i => n - i) ?_ ?_
  · exact fun w' hw' => ⟨0, Nat.zero_le _, (by repeat (first | exact Sub.nil | refine Sub.cons (by rfl) ?_)), hw'⟩
  · intro i hi
    refine CW.seq (CW.seq (CW.region ?_))
    refine RW.move rfl rfl ?_
    refine RW.move rfl rfl ?_
    refine RW.lenSl Try.underlying70 rfl rfl ?_
    refine RW.lss rfl rfl rfl ?_
    refine RW.nil (EX.seq ?_)
    -- mq: cond
    first | refine CW.condD rfl (fun hlt => ?_) (fun hlt => ?_) | refine CW.cond rfl (fun hlt => ?_) (fun hlt => ?_)
    · skip
      obtain ⟨x, hx⟩ : ∃ x, L[2 * i]? = some x := ⟨L[2 * i]'(by omega), List.getElem?_eq_getElem _⟩
      obtain ⟨y, hy⟩ : ∃ y, L[2 * i + 1]? = some y := ⟨L[2 * i + 1]'(by omega), List.getElem?_eq_getElem _⟩
      obtain ⟨ad1, hA1, _, hcl1⟩ := hr.at_ hx
      refine CW.skip (EX.seq (CW.seq (CW.block (CW.seq (CW.region ?_)))))
      refine RW.move rfl rfl ?_
      refine RW.move rfl rfl ?_
      refine RW.ixAddr (q := 2 * i) sl70 rfl rfl rfl (by first | rfl | assumption) (by omega) (by omega) ?_
      refine RW.load1 sc21 rfl rfl (fun w' hw' => hw'.base_cell (hcl1 0 _ rfl) (by simp)) ?_
      refine RW.move rfl rfl ?_
      refine RW.leq rfl rfl rfl ?_
      refine RW.move rfl rfl ?_
      -- mq: guard slot 18
      refine RW.casesB 18 rfl (fun h1 => ?_) (fun h1 => ?_)
      · skip
        have h1p := of_decide_eq_true h1
        obtain ⟨ad2, hA2, _, hcl2⟩ := hr.at_ hy
        refine RW.guardT rfl rfl h1 ?_
        refine RW.move rfl rfl ?_
        refine RW.guardT rfl rfl h1 ?_
        refine RW.move rfl rfl ?_
        refine RW.guardT rfl rfl h1 ?_
        refine RW.move rfl rfl ?_
        refine RW.guardT rfl rfl h1 ?_
        refine RW.add rfl rfl rfl (wrap64 (by omega) (by omega)) ?_
        refine RW.guardT rfl rfl h1 ?_
        refine RW.ixAddr (q := 2 * i + 1) sl70 rfl rfl rfl (by first | rfl | assumption) (by omega) (by omega) ?_
        refine RW.guardT rfl rfl h1 ?_
        refine RW.load1 sc21 rfl rfl (fun w' hw' => hw'.base_cell (hcl2 0 _ rfl) (by simp)) ?_
        refine RW.guardT rfl rfl h1 ?_
        refine RW.leq rfl rfl rfl ?_
        refine RW.pickB rfl rfl h1 rfl ?_
        refine RW.nil (EX.seq ?_)
        -- mq: cond
        first | refine CW.condD rfl (fun h3 => ?_) (fun h3 => ?_) | refine CW.cond rfl (fun h3 => ?_) (fun h3 => ?_)
        · skip
          refine CW.seq (CW.region ?_)
          refine RW.assign rfl rfl ?_
          refine RW.nil (EX.seq (CW.ret (EX.bkR (EX.seqR (EX.lpR (EX.bkR (EX.seqR ?_)))))))
          refine EX.fin1 Try.results26 rfl (fun wz hw => ?_)
          -- mq: done
          exact ⟨_, rfl, hw.ext, _, rfl⟩
        · skip
          refine CW.skip (EX.bkN (EX.seq (CW.region ?_)))
          refine RW.move rfl rfl ?_
          refine RW.add rfl rfl rfl (wrap64 (by omega) (by omega)) ?_
          refine RW.assign rfl rfl ?_
          refine RW.nil ?_
          -- mq: loopend
          exact EX.lpN (i + 1) (by omega) (by omega) (by repeat (first | exact Sub.nil | refine Sub.cons (by rfl) ?_)) (fun w' hw' => hw')
      · skip
        have h1p := of_decide_eq_false h1
        refine RW.guardF rfl rfl rfl h1 ?_
        refine RW.guardF rfl rfl rfl h1 ?_
        refine RW.guardF rfl rfl rfl h1 ?_
        refine RW.guardF rfl rfl rfl h1 ?_
        refine RW.guardF rfl rfl rfl h1 ?_
        refine RW.guardF rfl rfl rfl h1 ?_
        refine RW.guardF rfl rfl rfl h1 ?_
        refine RW.pickC rfl rfl h1 rfl ?_
        refine RW.nil (EX.seq ?_)
        -- mq: cond
        refine CW.condF rfl (rfl) ?_
        refine CW.skip (EX.bkN (EX.seq (CW.region ?_)))
        refine RW.move rfl rfl ?_
        refine RW.add rfl rfl rfl (wrap64 (by omega) (by omega)) ?_
        refine RW.assign rfl rfl ?_
        refine RW.nil ?_
        -- mq: loopend
        exact EX.lpN (i + 1) (by omega) (by omega) (by repeat (first | exact Sub.nil | refine Sub.cons (by rfl) ?_)) (fun w' hw' => hw')
    · skip
      refine CW.exit (EX.seqE (EX.lpE (EX.bkE (EX.seq (CW.seq (CW.region ?_))))))
      refine RW.assign rfl rfl ?_
      refine RW.nil (EX.seq (CW.ret ?_))
      refine EX.fin1 Try.results26 rfl (fun wz hw => ?_)
      -- mq: done
      exact ⟨_, rfl, hw.ext, _, rfl⟩
def IsInt (v : Value) : Prop := ∃ k : Int, v = .int .i64 k
theorem of_c (w : World) (r : Int) : Calls Try.prog 13 [.int .i32 r].toArray w (RetA (fun v _ => IsInt v) w) := by
  refine calls (n := 31) Try.func13 rfl Try.ntmps13 rfl ?_
  refine CW.sub (H' := SH w [] []) ?_ (Sub.refl _) (fun x hx => SH.start' _ _ hx)
  refine CW.seq (CW.region ?_)
  refine RW.assign rfl rfl ?_
  refine RW.nil (EX.seq (CW.seq (CW.seq ?_)))
  -- mq: region
  refine CW.joinI (fun b : Bool => [(0, .int .i32 r), (24, .bool b)]) (fun _ => SH w [] []) (fun _ => True) ?_ ?_
  · skip
    · skip
      refine CW.region ?_
      refine RW.move rfl rfl ?_
      refine RW.lss rfl rfl rfl ?_
      refine RW.move rfl rfl ?_
      -- mq: guard slot 5
      refine RW.casesB 5 rfl (fun a1 => ?_) (fun a1 => ?_)
      · skip
        have a1p := of_decide_eq_true a1
        refine RW.guardF rfl rfl rfl a1 ?_
        refine RW.guardF rfl rfl rfl a1 ?_
        refine RW.guardF rfl rfl rfl a1 ?_
        refine RW.guardU rfl rfl rfl ?_
        refine RW.guardU rfl rfl rfl ?_
        refine RW.guardF rfl rfl rfl a1 ?_
        refine RW.pickB rfl rfl a1 rfl ?_
        refine RW.move rfl rfl ?_
        refine RW.guardF rfl rfl rfl rfl ?_
        refine RW.guardF rfl rfl rfl rfl ?_
        refine RW.guardF rfl rfl rfl rfl ?_
        refine RW.guardU rfl rfl rfl ?_
        refine RW.guardU rfl rfl rfl ?_
        refine RW.guardF rfl rfl rfl rfl ?_
        refine RW.pickB rfl rfl rfl rfl ?_
        refine RW.move rfl rfl ?_
        refine RW.guardF rfl rfl rfl rfl ?_
        refine RW.guardF rfl rfl rfl rfl ?_
        refine RW.pickB rfl rfl rfl rfl ?_
        refine RW.nil ?_
        -- mq: joinend
        exact EX.jnI true trivial (by repeat (first | exact Sub.nil | refine Sub.cons (by rfl) ?_)) (fun _ h => h)
      · skip
        have a1p := of_decide_eq_false a1
        refine RW.guardT rfl rfl a1 ?_
        refine RW.move rfl rfl ?_
        refine RW.guardT rfl rfl a1 ?_
        refine RW.gtr rfl rfl rfl ?_
        refine RW.guardT rfl rfl a1 ?_
        refine RW.move rfl rfl ?_
        -- mq: guard slot 8
        refine RW.casesB 8 rfl (fun a2 => ?_) (fun a2 => ?_)
        · skip
          have a2p := of_decide_eq_true a2
          refine RW.guardT rfl rfl a2 ?_
          refine RW.move rfl rfl ?_
          refine RW.guardT rfl rfl a2 ?_
          refine RW.lss rfl rfl rfl ?_
          refine RW.guardT rfl rfl a1 ?_
          refine RW.pickB rfl rfl a2 rfl ?_
          refine RW.pickC rfl rfl a1 rfl ?_
          refine RW.move rfl rfl ?_
          -- mq: guard slot 13
          refine RW.casesB 13 rfl (fun a3 => ?_) (fun a3 => ?_)
          · skip
            have a3p := of_decide_eq_true a3
            refine RW.guardF rfl rfl rfl a3 ?_
            refine RW.guardF rfl rfl rfl a3 ?_
            refine RW.guardF rfl rfl rfl a3 ?_
            refine RW.guardU rfl rfl rfl ?_
            refine RW.guardU rfl rfl rfl ?_
            refine RW.guardF rfl rfl rfl a3 ?_
            refine RW.pickB rfl rfl a3 rfl ?_
            refine RW.move rfl rfl ?_
            refine RW.guardF rfl rfl rfl rfl ?_
            refine RW.guardF rfl rfl rfl rfl ?_
            refine RW.pickB rfl rfl rfl rfl ?_
            refine RW.nil ?_
            -- mq: joinend
            exact EX.jnI true trivial (by repeat (first | exact Sub.nil | refine Sub.cons (by rfl) ?_)) (fun _ h => h)
          · skip
            have a3p := of_decide_eq_false a3
            refine RW.guardT rfl rfl a3 ?_
            refine RW.move rfl rfl ?_
            refine RW.guardT rfl rfl a3 ?_
            refine RW.gtr rfl rfl rfl ?_
            refine RW.guardT rfl rfl a3 ?_
            refine RW.move rfl rfl ?_
            -- mq: guard slot 16
            refine RW.casesB 16 rfl (fun a4 => ?_) (fun a4 => ?_)
            · skip
              have a4p := of_decide_eq_true a4
              refine RW.guardT rfl rfl a4 ?_
              refine RW.move rfl rfl ?_
              refine RW.guardT rfl rfl a4 ?_
              refine RW.lss rfl rfl rfl ?_
              refine RW.guardT rfl rfl a3 ?_
              refine RW.pickB rfl rfl a4 rfl ?_
              refine RW.pickC rfl rfl a3 rfl ?_
              refine RW.move rfl rfl ?_
              -- mq: guard slot 21
              refine RW.casesB 21 rfl (fun a5 => ?_) (fun a5 => ?_)
              · skip
                have a5p := of_decide_eq_true a5
                refine RW.guardF rfl rfl rfl a5 ?_
                refine RW.guardF rfl rfl rfl a5 ?_
                refine RW.pickB rfl rfl a5 rfl ?_
                refine RW.nil ?_
                -- mq: joinend
                exact EX.jnI true trivial (by repeat (first | exact Sub.nil | refine Sub.cons (by rfl) ?_)) (fun _ h => h)
              · skip
                have a5p := of_decide_eq_false a5
                refine RW.guardT rfl rfl a5 ?_
                refine RW.move rfl rfl ?_
                refine RW.guardT rfl rfl a5 ?_
                refine RW.gtr rfl rfl rfl ?_
                refine RW.pickC rfl rfl a5 rfl ?_
                refine RW.nil ?_
                -- mq: joinend
                exact EX.jnI (decide (1114111 < r)) trivial (by repeat (first | exact Sub.nil | refine Sub.cons (by rfl) ?_)) (fun _ h => h)
            · skip
              have a4p := of_decide_eq_false a4
              refine RW.guardF rfl rfl rfl a4 ?_
              refine RW.guardF rfl rfl rfl a4 ?_
              refine RW.guardT rfl rfl a3 ?_
              refine RW.pickC rfl rfl a4 rfl ?_
              refine RW.pickC rfl rfl a3 rfl ?_
              refine RW.move rfl rfl ?_
              refine RW.guardT rfl rfl rfl ?_
              refine RW.move rfl rfl ?_
              refine RW.guardT rfl rfl rfl ?_
              refine RW.gtr rfl rfl rfl ?_
              refine RW.pickC rfl rfl rfl rfl ?_
              refine RW.nil ?_
              -- mq: joinend
              exact EX.jnI (decide (1114111 < r)) trivial (by repeat (first | exact Sub.nil | refine Sub.cons (by rfl) ?_)) (fun _ h => h)
        · skip
          have a2p := of_decide_eq_false a2
          refine RW.guardF rfl rfl rfl a2 ?_
          refine RW.guardF rfl rfl rfl a2 ?_
          refine RW.guardT rfl rfl a1 ?_
          refine RW.pickC rfl rfl a2 rfl ?_
          refine RW.pickC rfl rfl a1 rfl ?_
          refine RW.move rfl rfl ?_
          refine RW.guardT rfl rfl rfl ?_
          refine RW.move rfl rfl ?_
          refine RW.guardT rfl rfl rfl ?_
          refine RW.gtr rfl rfl rfl ?_
          refine RW.guardT rfl rfl rfl ?_
          refine RW.move rfl rfl ?_
          -- mq: guard slot 16
          refine RW.casesB 16 rfl (fun a4 => ?_) (fun a4 => ?_)
          · skip
            have a4p := of_decide_eq_true a4
            refine RW.guardT rfl rfl a4 ?_
            refine RW.move rfl rfl ?_
            refine RW.guardT rfl rfl a4 ?_
            refine RW.lss rfl rfl rfl ?_
            refine RW.guardT rfl rfl rfl ?_
            refine RW.pickB rfl rfl a4 rfl ?_
            refine RW.pickC rfl rfl rfl rfl ?_
            refine RW.move rfl rfl ?_
            -- mq: guard slot 21
            refine RW.casesB 21 rfl (fun a5 => ?_) (fun a5 => ?_)
            · skip
              have a5p := of_decide_eq_true a5
              refine RW.guardF rfl rfl rfl a5 ?_
              refine RW.guardF rfl rfl rfl a5 ?_
              refine RW.pickB rfl rfl a5 rfl ?_
              refine RW.nil ?_
              -- mq: joinend
              exact EX.jnI true trivial (by repeat (first | exact Sub.nil | refine Sub.cons (by rfl) ?_)) (fun _ h => h)
            · skip
              have a5p := of_decide_eq_false a5
              refine RW.guardT rfl rfl a5 ?_
              refine RW.move rfl rfl ?_
              refine RW.guardT rfl rfl a5 ?_
              refine RW.gtr rfl rfl rfl ?_
              refine RW.pickC rfl rfl a5 rfl ?_
              refine RW.nil ?_
              -- mq: joinend
              exact EX.jnI (decide (1114111 < r)) trivial (by repeat (first | exact Sub.nil | refine Sub.cons (by rfl) ?_)) (fun _ h => h)
          · skip
            have a4p := of_decide_eq_false a4
            refine RW.guardF rfl rfl rfl a4 ?_
            refine RW.guardF rfl rfl rfl a4 ?_
            refine RW.guardT rfl rfl rfl ?_
            refine RW.pickC rfl rfl a4 rfl ?_
            refine RW.pickC rfl rfl rfl rfl ?_
            refine RW.move rfl rfl ?_
            refine RW.guardT rfl rfl rfl ?_
            refine RW.move rfl rfl ?_
            refine RW.guardT rfl rfl rfl ?_
            refine RW.gtr rfl rfl rfl ?_
            refine RW.pickC rfl rfl rfl rfl ?_
            refine RW.nil ?_
            -- mq: joinend
            exact EX.jnI (decide (1114111 < r)) trivial (by repeat (first | exact Sub.nil | refine Sub.cons (by rfl) ?_)) (fun _ h => h)
  · skip
    intro b _
    refine EX.seq ?_
    -- mq: cond
    first | refine CW.condD rfl (fun h1 => ?_) (fun h1 => ?_) | refine CW.cond rfl (fun h1 => ?_) (fun h1 => ?_)
    · skip
      refine CW.seq (CW.region ?_)
      refine RW.assign rfl rfl ?_
      refine RW.nil (EX.seq (CW.ret (EX.seqR ?_)))
      refine EX.fin1 Try.results13 rfl (fun wz hw => ?_)
      -- mq: done
      exact ⟨_, rfl, hw.ext, _, rfl⟩
    · skip
      refine CW.skip (EX.seq (CW.seq (CW.seq ?_)))
      -- mq: region
      refine CW.region ?_
      -- mq: at
      refine RW.callA (R := fun w0 => IsPair w0) rfl ca27 rfl (fun w' _ => marksN_c w') (fun w1 w2 v hw1 he12 hw2 hlt2 hv => ?_)
      obtain ⟨A1, n1, c1, l1, rfl, he1, hle1, hrd1⟩ := hv
      have hx12 : Ext [] w w2 := hw1.ext.trans0 he12
      refine RW.move rfl rfl ?_
      -- mq: at
      refine RW.callA (R := fun _ v _ => IsBool v) rfl ca26 rfl (fun w' hw' => in_c w' _ A1 n1 c1 l1 r (hrd1.ext hw'.ext (by intro k _ hk2; cases hk2)) he1 hle1) (fun w3 w4 v hw3 he34 hw4 hlt4 hv => ?_)
      obtain ⟨b3, rfl⟩ := hv
      have hx14 : Ext [] w w4 := (hx12.trans0 hw3.ext).trans0 he34
      refine RW.nil (EX.seq ?_)
      -- mq: cond
      first | refine CW.condD rfl (fun h3 => ?_) (fun h3 => ?_) | refine CW.cond rfl (fun h3 => ?_) (fun h3 => ?_)
      · skip
        refine CW.seq (CW.region ?_)
        refine RW.assign rfl rfl ?_
        refine RW.nil (EX.seq (CW.ret (EX.seqR ?_)))
        refine EX.fin1 Try.results13 rfl (fun wz hw => ?_)
        -- mq: done
        exact ⟨_, rfl, hx14.trans0 hw.ext, _, rfl⟩
      · skip
        refine CW.skip (EX.seq (CW.seq (CW.seq ?_)))
        -- mq: region
        refine CW.region ?_
        -- mq: at
        refine RW.callA (R := fun w0 => IsPair w0) rfl ca28 rfl (fun w' _ => widesN_c w') (fun w5 w6 v hw5 he56 hw6 hlt6 hv => ?_)
        obtain ⟨A2, n2, c2, l2, rfl, he2, hle2, hrd2⟩ := hv
        have hx16 : Ext [] w w6 := (hx14.trans0 hw5.ext).trans0 he56
        refine RW.move rfl rfl ?_
        -- mq: at
        refine RW.callA (R := fun _ v _ => IsBool v) rfl ca26 rfl (fun w' hw' => in_c w' _ A2 n2 c2 l2 r (hrd2.ext hw'.ext (by intro k _ hk2; cases hk2)) he2 hle2) (fun w7 w8 v hw7 he78 hw8 hlt8 hv => ?_)
        obtain ⟨b7, rfl⟩ := hv
        have hx18 : Ext [] w w8 := (hx16.trans0 hw7.ext).trans0 he78
        refine RW.nil (EX.seq ?_)
        -- mq: cond
        first | refine CW.condD rfl (fun h7 => ?_) (fun h7 => ?_) | refine CW.cond rfl (fun h7 => ?_) (fun h7 => ?_)
        · skip
          refine CW.seq (CW.region ?_)
          refine RW.assign rfl rfl ?_
          refine RW.nil (EX.seq (CW.ret (EX.seqR ?_)))
          refine EX.fin1 Try.results13 rfl (fun wz hw => ?_)
          -- mq: done
          exact ⟨_, rfl, hx18.trans0 hw.ext, _, rfl⟩
        · skip
          refine CW.skip (EX.seq (CW.seq (CW.region ?_)))
          refine RW.assign rfl rfl ?_
          refine RW.nil (EX.seq (CW.ret ?_))
          refine EX.fin1 Try.results13 rfl (fun wz hw => ?_)
          -- mq: done
          exact ⟨_, rfl, hx18.trans0 hw.ext, _, rfl⟩
end Go.Proofs.Ytjmmikdbhhomiaa.Mq
