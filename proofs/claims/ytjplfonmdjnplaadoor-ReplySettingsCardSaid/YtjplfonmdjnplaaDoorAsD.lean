/- attributes: the walks of ref.Flags, ref.Text -/
import Derived.Test.YtjplfonmdjnplaaDoorAsB
namespace Go.Proofs.YtjplfonmdjnplaaDoor.Mq
open Go Go.RowKit Go.Proofs

theorem flags_c (w : World) : Calls Tryd.prog 39 [].toArray w (RetSl EPr w flagN) := by
  refine calls (n := 12) Tryd.func39 rfl Tryd.ntmps39 rfl ?_
  refine CW.sub (H' := SH w [] []) ?_ (Sub.refl _) (fun x hx => SH.start' _ _ hx)
  refine CW.seq (CW.region ?_)
  refine RW.assign rfl rfl ?_
  refine RW.nil (EX.seq (CW.seq (CW.region ?_)))
  refine RW.buildR ba33 rfl rfl rfl ?_
  refine RW.buildR ba33 rfl rfl rfl ?_
  refine RW.buildR ba33 rfl rfl rfl ?_
  refine RW.buildR ba33 rfl rfl rfl ?_
  refine RW.buildR ba33 rfl rfl rfl ?_
  refine RW.buildR ba33 rfl rfl rfl ?_
  refine RW.buildR ba33 rfl rfl rfl ?_
  refine RW.buildR ba33 rfl rfl rfl ?_
  refine RW.buildR ba33 rfl rfl rfl ?_
  refine RW.buildR ba33 rfl rfl rfl ?_
  refine RW.buildSlc sl60 rfl rfl rfl rfl (fun g11 hg11 hf11 => ?_)
  refine RW.assign rfl rfl ?_
  refine RW.nil (EX.seq (CW.ret ?_))
  refine EX.fin1 Tryd.results39 rfl (fun wz hw => ?_)
  -- mq: done
  have hrd := Rd.of_blk (E := EPr) (L := flagN) hw Has.head rfl (by decide)
  exact ⟨_, _, _, rfl, hw.ext, hrd.weak (fun k hk => by rw [hk]; assumption)⟩
def tailT (l : List Int) : List UInt8 := l.flatMap (fun x => 59 :: Lib.itoa x)
theorem tailT_append (l r : List Int) : tailT (l ++ r) = tailT l ++ tailT r := by simp [tailT]
theorem numsT_tail (x : Int) (l : List Int) : numsT (x :: l) = Lib.itoa x ++ tailT l := by
  induction l generalizing x with
  | nil => simp [numsT, tailT, Lib.join, List.intercalate]
  | cons y l ih =>
    have h2 : numsT (x :: y :: l) = Lib.itoa x ++ 59 :: numsT (y :: l) := by
      simp [numsT, Lib.join, List.intercalate]
    rw [h2, ih y]
    simp [tailT]
theorem tailT_len (l : List Int) (h : ∀ x ∈ l, -9223372036854775808 ≤ x ∧ x ≤ 9223372036854775807) : (tailT l).length ≤ l.length * 23 := by
  induction l with
  | nil => simp [tailT]
  | cons x l ih =>
    have h1 := ih (fun y hy => h y (List.mem_cons_of_mem _ hy))
    have h2 := numsT_len [x] (fun y hy => by rw [List.mem_singleton.1 hy]; exact h x (by simp))
    rw [numsT_tail] at h2
    simp only [tailT, List.flatMap_cons, List.flatMap_nil, List.length_append, List.length_cons, List.length_nil] at h1 h2 ⊢
    omega
def paintTo (fk fn bk bn : Int) (j : Nat) : List Int := match j with | 0 => [] | 1 => paintL fk fn 38 | _ => paintL fk fn 38 ++ paintL bk bn 48
theorem flagN_pos : ∀ p ∈ flagN, 0 < p.2 := by decide
theorem flagsL_64 (fl k : Nat) : ∀ x ∈ flagsL fl k, -9223372036854775808 ≤ x ∧ x ≤ 9223372036854775807 := by
  intro x hx
  obtain ⟨p, hp1, rfl⟩ := List.mem_map.1 hx
  have := (flagN_lt p (List.mem_of_mem_take (List.mem_filter.1 hp1).1)).2
  omega
theorem paint_64 {k n p : Int} (h1 : colF k n = true) (hp : 0 ≤ p ∧ p ≤ 100) : ∀ x ∈ paintL k n p, -9223372036854775808 ≤ x ∧ x ≤ 9223372036854775807 := by
  have hn := colF_range h1
  intro x hx
  unfold paintL at hx
  split at hx
  · simp only [List.mem_cons, List.not_mem_nil, or_false] at hx
    omega
  · split at hx
    · simp only [List.mem_cons, List.not_mem_nil, or_false] at hx
      omega
    · cases hx
theorem tail_bound {fk fn bk bn : Int} {fl : Nat} (h1 : colF fk fn = true) (h2 : colF bk bn = true) (j : Nat) : (tailT (flagsL fl 10 ++ paintTo fk fn bk bn j)).length ≤ 500 := by
  have a1 := tailT_len _ (flagsL_64 fl 10)
  have a2 := tailT_len _ (paint_64 h1 (p := 38) (by omega))
  have a3 := tailT_len _ (paint_64 h2 (p := 48) (by omega))
  have b1 := flagsL_len fl 10
  have b2 := paintL_len fk fn 38
  have b3 := paintL_len bk bn 48
  unfold paintTo
  rw [tailT_append, List.length_append]
  split
  · simp only [tailT, List.flatMap_nil, List.length_nil] at *; omega
  · omega
  · rw [tailT_append, List.length_append]; omega
theorem itoa5 : Lib.itoa 5 = [53] := by
  rw [show (5 : Int) = ((5 : Nat) : Int) from rfl, Lib.itoa_nonneg, dec_small (by decide)]; rfl
theorem itoa2 : Lib.itoa 2 = [50] := by
  rw [show (2 : Int) = ((2 : Nat) : Int) from rfl, Lib.itoa_nonneg, dec_small (by decide)]; rfl
theorem itoa38 : Lib.itoa 38 = [51, 56] := by
  rw [show (38 : Int) = ((38 : Nat) : Int) from rfl, Lib.itoa_nonneg, dec_big (by decide), dec_small (by decide)]; rfl
theorem itoa48 : Lib.itoa 48 = [52, 56] := by
  rw [show (48 : Int) = ((48 : Nat) : Int) from rfl, Lib.itoa_nonneg, dec_big (by decide), dec_small (by decide)]; rfl
theorem refText_c (w : World) (fk fn bk bn : Int) (fl : Nat) (h1 : colF fk fn = true) (h2 : colF bk bn = true) (hfl : fl < 1024) :
    Calls Tryd.prog 27 [atV ⟨fk, fn, bk, bn, (fl : Int)⟩].toArray w (fun e w' => e = .returned (.string (bs (48 :: tailT (flagsL fl 10 ++ paintL fk fn 38 ++ paintL bk bn 48)))) ∧ Ext [] w w') := by
  refine calls (n := 82) Tryd.func27 rfl Tryd.ntmps27 rfl ?_
  refine CW.sub (H' := SH w [] []) ?_ (Sub.refl _) (fun x hx => SH.start' _ _ hx)
  refine CW.seq (CW.region ?_)
  refine RW.boxA rfl rfl (fun g1 hg1 hf1 => ?_)
  refine RW.assign rfl rfl ?_
  refine RW.nil (EX.seq (CW.seq (CW.region ?_)))
  refine RW.assign rfl rfl ?_
  refine RW.nil (EX.seq (CW.seq (CW.region ?_)))
  -- mq: op 0: ('Op.call', ('Call.mk', ('Callee.value', ('Operand.func', '39')), ('arr',), ('arr',))) -> slot 9 ("ref.go:175")
  refine RW.callK rfl ca39 rfl (fun w' hw' => flags_c w') (fun w0 w1 A9 n9 c9 hw0 he01 hw1 hlt9 hrd9 => ?_)
  have hn9 := hrd9.len
  have hn10 : n9 = 10 := hn9.symm
  have hx1 : Ext [] w w1 := hw0.ext.trans0 he01
  have hcv := hw0.cov
  refine RW.assign rfl rfl ?_
  refine RW.nil (EX.seq (CW.seq (CW.seq (CW.region ?_))))
  refine RW.assign rfl rfl ?_
  refine RW.nil (EX.seq (CW.block ?_))
  -- mq: loop
  refine CW.loop (ι := Nat) (fun k => [(1, .pointer (some ⟨g1, 0, none⟩)), (3, .string (bs (48 :: tailT (flagsL fl k)))), (4, .slice A9 n9 c9), (5, .int .i64 (k : Int))]) (fun _ => SH w1 (feet [blk g1 [.int .i64 fk, .int .i64 fn, .int .i64 bk, .int .i64 bn, .int .i64 (fl : Int)] 32]) [blk g1 [.int .i64 fk, .int .i64 fn, .int .i64 bk, .int .i64 bn, .int .i64 (fl : Int)] 32]) (fun k => k ≤ n9) (fun k => n9 - k) ?_ ?_
  · exact fun w' hw' => ⟨0, Nat.zero_le _, (by repeat (first | exact Sub.nil | refine Sub.cons (by rfl) ?_)), hw'⟩
  · intro k hk
    have hlen := tailT_len _ (flagsL_64 fl k)
    have hfll := flagsL_len fl k
    refine CW.seq (CW.seq (CW.region ?_))
    refine RW.move rfl rfl ?_
    refine RW.move rfl rfl ?_
    refine RW.lenSl Tryd.underlying60 rfl rfl ?_
    refine RW.lss rfl rfl rfl ?_
    refine RW.nil (EX.seq ?_)
    -- mq: cond
    first | refine CW.condD rfl (fun hlt => ?_) (fun hlt => ?_) | refine CW.cond rfl (fun hlt => ?_) (fun hlt => ?_)
    · skip
      obtain ⟨p, hp⟩ : ∃ p, flagN[k]? = some p := ⟨flagN[k]'(by show k < 10; omega), List.getElem?_eq_getElem _⟩
      have hpm := List.mem_of_getElem? hp
      have hpl := flagN_lt p hpm
      obtain ⟨ad, hA, had, hcell⟩ := hrd9.at_ hp
      refine CW.skip (EX.seq (CW.seq (CW.block (CW.seq ?_))))
      -- mq: region
      refine CW.drawU [0, 1, 2, 3, 4, 5, 6] 1 [[(7, false, [])]] (SH w1 (feet [blk g1 [.int .i64 fk, .int .i64 fn, .int .i64 bk, .int .i64 bn, .int .i64 (fl : Int)] 32]) [blk g1 [.int .i64 fk, .int .i64 fn, .int .i64 bk, .int .i64 bn, .int .i64 (fl : Int)] 32]) mixed (by kernel_rfl) (fun _ hw => hw.drew) (fun _ h => (by first | trivial | exact h | exact h.ch | exact (h.rem Rem.head).ch | exact ((h.rem Rem.head).rem Rem.head).ch | exact (((h.rem Rem.head).rem Rem.head).rem Rem.head).ch)) ?_
      refine QuP.cons rfl (fun wq hq => (RW.fieldB fl32x2 rfl rfl RW.jn)) ?_
      refine QuP.cons rfl (fun wq hq => (RW.load1 sc3 rfl rfl (fun w1 e1 => by subst e1; exact hq.blk_cell (by first | exact Has.head | exact Has.tail Has.head | exact Has.tail (Has.tail Has.head) | exact Has.tail (Has.tail (Has.tail Has.head)) | exact Has.tail (Has.tail (Has.tail (Has.tail Has.head))) | exact Has.tail (Has.tail (Has.tail (Has.tail (Has.tail Has.head)))) | exact Has.tail (Has.tail (Has.tail (Has.tail (Has.tail (Has.tail Has.head)))))) rfl) RW.jn)) ?_
      refine QuP.cons rfl (fun wq hq => (RW.move rfl rfl RW.jn)) ?_
      refine QuP.cons rfl (fun wq hq => (RW.move rfl rfl RW.jn)) ?_
      refine QuP.cons rfl (fun wq hq => (RW.ixAddr (q := k) sl60 rfl rfl rfl (by first | rfl | assumption) (by omega) (by omega) RW.jn)) ?_
      refine QuP.cons rfl (fun wq hq => (RW.ixArr (q := 1) Tryd.underlying33 ar33 rfl rfl rfl (by omega) (by omega) RW.jn)) ?_
      refine QuP.cons rfl (fun wq hq => (RW.load1 sc3 rfl rfl (fun w1 e1 => by subst e1; exact (hq.base_cell (hcell 1 _ rfl) (fun hk2 => by have := hlt9 _ hk2; have : w0.heap.size ≤ ad.block := had; simp only [block_add] at *; omega))) RW.jn)) ?_
      refine QuP.nil ?_
      refine UW.step [_] rfl (List.forall_mem_cons.2 ⟨?_, by simp⟩)
      refine RW.call rfl ca38 rfl (fun w' hw' => has_c w' fl p.2 (by omega) (flagN_pos p hpm)) ?_
      refine RW.st (fun _ => True) (fun _ h => .inr (by first | trivial | exact h | exact h.ch | exact (h.rem Rem.head).ch | exact ((h.rem Rem.head).rem Rem.head).ch | exact (((h.rem Rem.head).rem Rem.head).rem Rem.head).ch)) (fun _ h => trivial) ?_
      refine QuP.nil ?_
      refine UW.nil (EX.seq ?_)
      -- mq: cond
      first | refine CW.condD rfl (fun hh => ?_) (fun hh => ?_) | refine CW.cond rfl (fun hh => ?_) (fun hh => ?_)
      · skip
        have hdl : (Lib.decDigits p.1).length ≤ 21 := dec_len_le (by omega)
        refine CW.region ?_
        refine RW.move rfl rfl ?_
        refine RW.catS rfl rfl rfl (by first | omega | (simp only [List.length_append, List.length_cons, List.length_nil]; omega)) ?_
        refine RW.move rfl rfl ?_
        refine RW.move rfl rfl ?_
        refine RW.ixAddr (q := k) sl60 rfl rfl rfl (by first | rfl | assumption) (by omega) (by omega) ?_
        refine RW.ixArr (q := 0) Tryd.underlying33 ar33 rfl rfl rfl (by omega) (by omega) ?_
        refine RW.load1 sc3 rfl rfl (fun w' hw' => hw'.base_cell (hcell 0 _ rfl) (fun hk2 => by have := hlt9 _ hk2; have : w0.heap.size ≤ ad.block := had; simp only [block_add] at *; omega)) ?_
        refine RW.call rfl ca20 rfl (fun w' hw' => refDigits_c w' p.1 (by omega)) ?_
        refine RW.catS rfl rfl rfl (by first | omega | (simp only [List.length_append, List.length_cons, List.length_nil]; omega)) ?_
        refine RW.assign rfl rfl ?_
        refine RW.nil (EX.bkN (EX.seq (CW.region ?_)))
        refine RW.move rfl rfl ?_
        refine RW.add rfl rfl rfl (wrap64 (by omega) (by omega)) ?_
        refine RW.assign rfl rfl ?_
        refine RW.nil ?_
        -- mq: loopend
        have e : 48 :: tailT (flagsL fl (k + 1)) = (48 :: tailT (flagsL fl k) ++ [59]) ++ Lib.decDigits p.1 := by
          rw [flagsL_succ hp, if_pos hh, tailT_append]
          simp [tailT, Lib.itoa_nonneg]
        refine EX.lpN (k + 1) (by omega) (by omega) (by rw [e]; exact (by repeat (first | exact Sub.nil | refine Sub.cons (by rfl) ?_))) (fun w' hw' => hw')
      · skip
        refine CW.skip (EX.bkN (EX.seq (CW.region ?_)))
        refine RW.move rfl rfl ?_
        refine RW.add rfl rfl rfl (wrap64 (by omega) (by omega)) ?_
        refine RW.assign rfl rfl ?_
        refine RW.nil ?_
        -- mq: loopend
        refine EX.lpN (k + 1) (by omega) (by omega) (by rw [flagsL_succ hp, if_neg (by simp [hh])]; exact (by repeat (first | exact Sub.nil | refine Sub.cons (by rfl) ?_))) (fun w' hw' => hw')
    · skip
      have hk10 : k = 10 := by omega
      subst hk10
      refine CW.exit (EX.seqE (EX.lpE (EX.bkE (EX.seq (CW.seq (CW.seq (CW.region ?_)))))))
      refine RW.assign rfl rfl ?_
      refine RW.nil (EX.seq (CW.block ?_))
      -- mq: loop
      have hlen2 := tailT_len _ (flagsL_64 fl 10)
      refine CW.loop (ι := Nat) (fun j => [(1, .pointer (some ⟨g1, 0, none⟩)), (3, .string (bs (48 :: tailT (flagsL fl 10 ++ paintTo fk fn bk bn j)))), (6, .int .i64 (j : Int))]) (fun _ => SH w1 (feet [blk g1 [.int .i64 fk, .int .i64 fn, .int .i64 bk, .int .i64 bn, .int .i64 (fl : Int)] 32]) [blk g1 [.int .i64 fk, .int .i64 fn, .int .i64 bk, .int .i64 bn, .int .i64 (fl : Int)] 32]) (fun j => j ≤ 2) (fun j => 2 - j) ?_ ?_
      · exact fun w' hw' => ⟨0, Nat.zero_le _, by rw [show paintTo fk fn bk bn 0 = [] from rfl, List.append_nil]; exact (by repeat (first | exact Sub.nil | refine Sub.cons (by rfl) ?_)), hw'⟩
      · intro j hj
        refine CW.seq (CW.seq (CW.region ?_))
        refine RW.move rfl rfl ?_
        refine RW.lss rfl rfl rfl ?_
        refine RW.nil (EX.seq ?_)
        -- mq: cond
        first | refine CW.condD rfl (fun hlt2 => ?_) (fun hlt2 => ?_) | refine CW.cond rfl (fun hlt2 => ?_) (fun hlt2 => ?_)
        · skip
          have hP := paintL_len fk fn 38
          rcases (show j = 0 ∨ j = 1 by omega) with rfl | rfl
          · skip
            have hcr := colF_range h1
            obtain ⟨m, hm⟩ : ∃ m : Nat, fn = m := ⟨fn.toNat, by omega⟩
            refine CW.skip (EX.seq (CW.seq (CW.block (CW.seq (CW.region ?_)))))
            refine RW.fieldB fl32x0 rfl rfl ?_
            refine RW.loadBA ag30 rfl rfl (by first | exact Has.head | exact Has.tail Has.head | exact Has.tail (Has.tail Has.head) | exact Has.tail (Has.tail (Has.tail Has.head)) | exact Has.tail (Has.tail (Has.tail (Has.tail Has.head))) | exact Has.tail (Has.tail (Has.tail (Has.tail (Has.tail Has.head)))) | exact Has.tail (Has.tail (Has.tail (Has.tail (Has.tail (Has.tail Has.head)))))) rfl rfl ?_
            refine RW.allocA ag30 rfl (fun g7 hg7 hf7 => ?_)
            refine RW.storeA ag30 rfl rfl (by first | exact Upd.head | exact Upd.tail Upd.head | exact Upd.tail (Upd.tail Upd.head) | exact Upd.tail (Upd.tail (Upd.tail Upd.head)) | exact Upd.tail (Upd.tail (Upd.tail (Upd.tail Upd.head))) | exact Upd.tail (Upd.tail (Upd.tail (Upd.tail (Upd.tail Upd.head)))) | exact Upd.tail (Upd.tail (Upd.tail (Upd.tail (Upd.tail (Upd.tail Upd.head)))))) (by first | rfl | exact Enc.len _ _) (by repeat (first | exact Ones.nil | exact Enc.ones _ _ | refine Ones.cons rfl ?_)) (by first | exact Nat.le_of_ble_eq_true rfl | (simp only [Enc.len]; decide)) ?_
            refine RW.assign rfl rfl ?_
            refine RW.nil (EX.seq (CW.seq (CW.seq (CW.region ?_))))
            refine RW.move rfl rfl ?_
            refine RW.eqlI rfl rfl rfl ?_
            refine RW.nil (EX.seq ?_)
            -- mq: cond
            refine CW.condF rfl ((by decide)) ?_
            refine CW.skip (EX.seq (CW.seq (CW.region ?_)))
            refine RW.fieldB fl30x0 rfl rfl ?_
            refine RW.loadB1 sc3 rfl rfl (by first | exact Has.head | exact Has.tail Has.head | exact Has.tail (Has.tail Has.head) | exact Has.tail (Has.tail (Has.tail Has.head)) | exact Has.tail (Has.tail (Has.tail (Has.tail Has.head))) | exact Has.tail (Has.tail (Has.tail (Has.tail (Has.tail Has.head)))) | exact Has.tail (Has.tail (Has.tail (Has.tail (Has.tail (Has.tail Has.head)))))) rfl ?_
            refine RW.nil (EX.seq (CW.block (CW.seq (CW.region ?_))))
            refine RW.eqlI rfl rfl rfl ?_
            refine RW.assign rfl rfl ?_
            refine RW.nil (EX.seq ?_)
            -- mq: cond
            have htb := tail_bound (fl := fl) h1 h2 0
            subst hm
            have hd0 : (Lib.decDigits m).length ≤ 21 := dec_len_le (by omega)
            have hd1 : (Lib.decDigits (m / 65536)).length ≤ 21 := dec_len_le (by omega)
            have hd2 : (Lib.decDigits (m / 256 % 256)).length ≤ 21 := dec_len_le (by omega)
            have hd3 : (Lib.decDigits (m % 256)).length ≤ 21 := dec_len_le (by omega)
            first | refine CW.condD rfl (fun hk1 => ?_) (fun hk1 => ?_) | refine CW.cond rfl (fun hk1 => ?_) (fun hk1 => ?_)
            · skip
              refine CW.region ?_
              refine RW.move rfl rfl ?_
              refine RW.catS rfl rfl rfl (by first | omega | (simp only [List.length_append, List.length_cons, List.length_nil]; omega)) ?_
              refine RW.move rfl rfl ?_
              refine RW.catS rfl rfl rfl (by first | omega | (simp only [List.length_append, List.length_cons, List.length_nil]; omega)) ?_
              refine RW.catS rfl rfl rfl (by first | omega | (simp only [List.length_append, List.length_cons, List.length_nil]; omega)) ?_
              refine RW.fieldB fl30x1 rfl rfl ?_
              refine RW.loadB1 sc3 rfl rfl (by first | exact Has.head | exact Has.tail Has.head | exact Has.tail (Has.tail Has.head) | exact Has.tail (Has.tail (Has.tail Has.head)) | exact Has.tail (Has.tail (Has.tail (Has.tail Has.head))) | exact Has.tail (Has.tail (Has.tail (Has.tail (Has.tail Has.head)))) | exact Has.tail (Has.tail (Has.tail (Has.tail (Has.tail (Has.tail Has.head)))))) rfl ?_
              refine RW.call rfl ca20 rfl (fun w' hw' => refDigits_c w' m (by omega)) ?_
              refine RW.catS rfl rfl rfl (by first | omega | (simp only [List.length_append, List.length_cons, List.length_nil]; omega)) ?_
              refine RW.assign rfl rfl ?_
              refine RW.nil (EX.bkN (EX.bkN (EX.seq (CW.region ?_))))
              refine RW.move rfl rfl ?_
              refine RW.add rfl rfl rfl (wrap64 (by omega) (by omega)) ?_
              refine RW.assign rfl rfl ?_
              refine RW.nil ?_
              -- mq: loopend
              have e : 48 :: tailT (flagsL fl 10 ++ paintTo fk (m : Int) bk bn 1) = (((48 :: tailT (flagsL fl 10 ++ paintTo fk (m : Int) bk bn 0) ++ [59]) ++ [51, 56]) ++ [59, 53, 59]) ++ Lib.decDigits m := by
                simp only [paintTo, List.append_nil]
                rw [tailT_append, paintL, if_pos hk1]
                simp [tailT, Lib.itoa_nonneg, itoa38, itoa5]
              refine EX.lpN 1 (by omega) (by omega) (by rw [e]; exact (by repeat (first | exact Sub.nil | refine Sub.cons (by rfl) ?_))) (fun w' hw' => hw'.rem Rem.head)
            · skip
              refine CW.seq (CW.region ?_)
              refine RW.eqlI rfl rfl rfl ?_
              refine RW.assign rfl rfl ?_
              refine RW.nil (EX.seq ?_)
              -- mq: cond
              first | refine CW.condD rfl (fun hk2 => ?_) (fun hk2 => ?_) | refine CW.cond rfl (fun hk2 => ?_) (fun hk2 => ?_)
              · skip
                refine CW.drawU [0, 1, 2, 3, 4, 5, 6, 7, 11, 12, 13, 14, 18, 19, 20] 3 [[(8, false, [9, 10]), (15, false, [16, 17]), (21, false, [22, 23])]] (SH w1 (feet [blk g1 [.int .i64 fk, .int .i64 (m : Int), .int .i64 bk, .int .i64 bn, .int .i64 (fl : Int)] 32]) [blk g7 [.int .i64 fk, .int .i64 (m : Int)] 30, blk g1 [.int .i64 fk, .int .i64 (m : Int), .int .i64 bk, .int .i64 bn, .int .i64 (fl : Int)] 32]) mixed (by kernel_rfl) (fun _ hw => hw.drew) (fun _ h => (by first | trivial | exact h | exact h.ch | exact (h.rem Rem.head).ch | exact ((h.rem Rem.head).rem Rem.head).ch | exact (((h.rem Rem.head).rem Rem.head).rem Rem.head).ch)) ?_
                refine QuP.cons rfl (fun wq hq => (RW.move rfl rfl RW.jn)) ?_
                refine QuP.cons rfl (fun wq hq => (RW.catS rfl rfl rfl (by first | omega | (simp only [List.length_append, List.length_cons, List.length_nil]; omega)) RW.jn)) ?_
                refine QuP.cons rfl (fun wq hq => (RW.move rfl rfl RW.jn)) ?_
                refine QuP.cons rfl (fun wq hq => (RW.catS rfl rfl rfl (by first | omega | (simp only [List.length_append, List.length_cons, List.length_nil]; omega)) RW.jn)) ?_
                refine QuP.cons rfl (fun wq hq => (RW.catS rfl rfl rfl (by first | omega | (simp only [List.length_append, List.length_cons, List.length_nil]; omega)) RW.jn)) ?_
                refine QuP.cons rfl (fun wq hq => (RW.fieldB fl30x1 rfl rfl RW.jn)) ?_
                refine QuP.cons rfl (fun wq hq => (RW.load1 sc3 rfl rfl (fun w1 e1 => by subst e1; exact hq.blk_cell (by first | exact Has.head | exact Has.tail Has.head | exact Has.tail (Has.tail Has.head) | exact Has.tail (Has.tail (Has.tail Has.head)) | exact Has.tail (Has.tail (Has.tail (Has.tail Has.head))) | exact Has.tail (Has.tail (Has.tail (Has.tail (Has.tail Has.head)))) | exact Has.tail (Has.tail (Has.tail (Has.tail (Has.tail (Has.tail Has.head)))))) rfl) RW.jn)) ?_
                refine QuP.cons rfl (fun wq hq => (RW.quoN rfl rfl rfl (by omega) (by omega) (by omega) RW.jn)) ?_
                refine QuP.cons rfl (fun wq hq => (RW.fieldB fl30x1 rfl rfl RW.jn)) ?_
                refine QuP.cons rfl (fun wq hq => (RW.load1 sc3 rfl rfl (fun w1 e1 => by subst e1; exact hq.blk_cell (by first | exact Has.head | exact Has.tail Has.head | exact Has.tail (Has.tail Has.head) | exact Has.tail (Has.tail (Has.tail Has.head)) | exact Has.tail (Has.tail (Has.tail (Has.tail Has.head))) | exact Has.tail (Has.tail (Has.tail (Has.tail (Has.tail Has.head)))) | exact Has.tail (Has.tail (Has.tail (Has.tail (Has.tail (Has.tail Has.head)))))) rfl) RW.jn)) ?_
                refine QuP.cons rfl (fun wq hq => (RW.quoN rfl rfl rfl (by omega) (by omega) (by omega) RW.jn)) ?_
                refine QuP.cons rfl (fun wq hq => (RW.remN rfl rfl rfl (by omega) (by omega) RW.jn)) ?_
                refine QuP.cons rfl (fun wq hq => (RW.fieldB fl30x1 rfl rfl RW.jn)) ?_
                refine QuP.cons rfl (fun wq hq => (RW.load1 sc3 rfl rfl (fun w1 e1 => by subst e1; exact hq.blk_cell (by first | exact Has.head | exact Has.tail Has.head | exact Has.tail (Has.tail Has.head) | exact Has.tail (Has.tail (Has.tail Has.head)) | exact Has.tail (Has.tail (Has.tail (Has.tail Has.head))) | exact Has.tail (Has.tail (Has.tail (Has.tail (Has.tail Has.head)))) | exact Has.tail (Has.tail (Has.tail (Has.tail (Has.tail (Has.tail Has.head)))))) rfl) RW.jn)) ?_
                refine QuP.cons rfl (fun wq hq => (RW.remN rfl rfl rfl (by omega) (by omega) RW.jn)) ?_
                refine QuP.nil ?_
                refine UW.step [_] rfl (List.forall_mem_cons.2 ⟨?_, by simp⟩)
                refine RW.call rfl ca20 rfl (fun w' hw' => refDigits_c w' (m / 65536) (by omega)) ?_
                refine RW.st (fun _ => True) (fun _ h => .inr (by first | trivial | exact h | exact h.ch | exact (h.rem Rem.head).ch | exact ((h.rem Rem.head).rem Rem.head).ch | exact (((h.rem Rem.head).rem Rem.head).rem Rem.head).ch)) (fun _ h => trivial) ?_
                refine QuP.cons rfl (fun wq hq => (RW.catS rfl rfl rfl (by first | omega | (simp only [List.length_append, List.length_cons, List.length_nil]; omega)) RW.jn)) ?_
                refine QuP.cons rfl (fun wq hq => (RW.catS rfl rfl rfl (by first | omega | (simp only [List.length_append, List.length_cons, List.length_nil]; omega)) RW.jn)) ?_
                refine QuP.nil ?_
                refine UW.step [_] rfl (List.forall_mem_cons.2 ⟨?_, by simp⟩)
                refine RW.call rfl ca20 rfl (fun w' hw' => refDigits_c w' (m / 256 % 256) (by omega)) ?_
                refine RW.st (fun _ => True) (fun _ h => .inr ⟨.inr (by first | trivial | exact h | exact h.ch | exact (h.rem Rem.head).ch | exact ((h.rem Rem.head).rem Rem.head).ch | exact (((h.rem Rem.head).rem Rem.head).rem Rem.head).ch), trivial⟩) (fun _ h => trivial) ?_
                refine QuP.cons rfl (fun wq hq => (RW.catS rfl rfl rfl (by first | omega | (simp only [List.length_append, List.length_cons, List.length_nil]; omega)) RW.jn)) ?_
                refine QuP.cons rfl (fun wq hq => (RW.catS rfl rfl rfl (by first | omega | (simp only [List.length_append, List.length_cons, List.length_nil]; omega)) RW.jn)) ?_
                refine QuP.nil ?_
                refine UW.step [_] rfl (List.forall_mem_cons.2 ⟨?_, by simp⟩)
                refine RW.call rfl ca20 rfl (fun w' hw' => refDigits_c w' (m % 256) (by omega)) ?_
                refine RW.st (fun _ => True) (fun _ h => .inr ⟨.inr ⟨.inr (by first | trivial | exact h | exact h.ch | exact (h.rem Rem.head).ch | exact ((h.rem Rem.head).rem Rem.head).ch | exact (((h.rem Rem.head).rem Rem.head).rem Rem.head).ch), trivial⟩, trivial⟩) (fun _ h => trivial) ?_
                refine QuP.cons rfl (fun wq hq => (RW.catS rfl rfl rfl (by first | omega | (simp only [List.length_append, List.length_cons, List.length_nil]; omega)) RW.jn)) ?_
                refine QuP.cons rfl (fun wq hq => (RW.assign rfl rfl RW.jn)) ?_
                refine QuP.nil ?_
                refine UW.nil (EX.bkN (EX.bkN (EX.seq (CW.region ?_))))
                refine RW.move rfl rfl ?_
                refine RW.add rfl rfl rfl (wrap64 (by omega) (by omega)) ?_
                refine RW.assign rfl rfl ?_
                refine RW.nil ?_
                -- mq: loopend
                have e2 : 48 :: tailT (flagsL fl 10 ++ paintTo fk (m : Int) bk bn 1) = (((((((48 :: tailT (flagsL fl 10 ++ paintTo fk (m : Int) bk bn 0) ++ [59]) ++ [51, 56]) ++ [59, 50, 59]) ++ Lib.decDigits (m / 65536)) ++ [59]) ++ Lib.decDigits (m / 256 % 256)) ++ [59]) ++ Lib.decDigits (m % 256) := by
                  simp only [paintTo, List.append_nil]
                  rw [tailT_append, paintL, if_neg hk1, if_pos hk2, show (m : Int) / 65536 = ((m / 65536 : Nat) : Int) from rfl, show (m : Int) / 256 % 256 = ((m / 256 % 256 : Nat) : Int) from rfl, show (m : Int) % 256 = ((m % 256 : Nat) : Int) from rfl]
                  simp only [tailT, List.flatMap_cons, List.flatMap_nil, Lib.itoa_nonneg, itoa38, itoa2]
                  simp
                refine EX.lpN 1 (by omega) (by omega) (by rw [e2]; exact (by repeat (first | exact Sub.nil | refine Sub.cons (by rfl) ?_))) (fun w' hw' => hw'.rem Rem.head)
              · skip
                refine CW.skip (EX.bkN (EX.bkN (EX.seq (CW.region ?_))))
                refine RW.move rfl rfl ?_
                refine RW.add rfl rfl rfl (wrap64 (by omega) (by omega)) ?_
                refine RW.assign rfl rfl ?_
                refine RW.nil ?_
                -- mq: loopend
                refine EX.lpN 1 (by omega) (by omega) (by rw [show paintTo fk (m : Int) bk bn 1 = paintTo fk (m : Int) bk bn 0 from by simp only [paintTo]; rw [paintL, if_neg hk1, if_neg hk2]]; exact (by repeat (first | exact Sub.nil | refine Sub.cons (by rfl) ?_))) (fun w' hw' => hw'.rem Rem.head)
          · skip
            have hcr := colF_range h2
            obtain ⟨m, hm⟩ : ∃ m : Nat, bn = m := ⟨bn.toNat, by omega⟩
            refine CW.skip (EX.seq (CW.seq (CW.block (CW.seq (CW.region ?_)))))
            refine RW.fieldB fl32x0 rfl rfl ?_
            refine RW.loadBA ag30 rfl rfl (by first | exact Has.head | exact Has.tail Has.head | exact Has.tail (Has.tail Has.head) | exact Has.tail (Has.tail (Has.tail Has.head)) | exact Has.tail (Has.tail (Has.tail (Has.tail Has.head))) | exact Has.tail (Has.tail (Has.tail (Has.tail (Has.tail Has.head)))) | exact Has.tail (Has.tail (Has.tail (Has.tail (Has.tail (Has.tail Has.head)))))) rfl rfl ?_
            refine RW.allocA ag30 rfl (fun g7 hg7 hf7 => ?_)
            refine RW.storeA ag30 rfl rfl (by first | exact Upd.head | exact Upd.tail Upd.head | exact Upd.tail (Upd.tail Upd.head) | exact Upd.tail (Upd.tail (Upd.tail Upd.head)) | exact Upd.tail (Upd.tail (Upd.tail (Upd.tail Upd.head))) | exact Upd.tail (Upd.tail (Upd.tail (Upd.tail (Upd.tail Upd.head)))) | exact Upd.tail (Upd.tail (Upd.tail (Upd.tail (Upd.tail (Upd.tail Upd.head)))))) (by first | rfl | exact Enc.len _ _) (by repeat (first | exact Ones.nil | exact Enc.ones _ _ | refine Ones.cons rfl ?_)) (by first | exact Nat.le_of_ble_eq_true rfl | (simp only [Enc.len]; decide)) ?_
            refine RW.assign rfl rfl ?_
            refine RW.nil (EX.seq (CW.seq (CW.seq (CW.region ?_))))
            refine RW.move rfl rfl ?_
            refine RW.eqlI rfl rfl rfl ?_
            refine RW.nil (EX.seq ?_)
            -- mq: cond
            refine CW.condT rfl ((by decide)) ?_
            refine CW.region ?_
            refine RW.fieldB fl32x1 rfl rfl ?_
            refine RW.loadBA ag30 rfl rfl (by first | exact Has.head | exact Has.tail Has.head | exact Has.tail (Has.tail Has.head) | exact Has.tail (Has.tail (Has.tail Has.head)) | exact Has.tail (Has.tail (Has.tail (Has.tail Has.head))) | exact Has.tail (Has.tail (Has.tail (Has.tail (Has.tail Has.head)))) | exact Has.tail (Has.tail (Has.tail (Has.tail (Has.tail (Has.tail Has.head)))))) rfl rfl ?_
            refine RW.storeA ag30 rfl rfl (by first | exact Upd.head | exact Upd.tail Upd.head | exact Upd.tail (Upd.tail Upd.head) | exact Upd.tail (Upd.tail (Upd.tail Upd.head)) | exact Upd.tail (Upd.tail (Upd.tail (Upd.tail Upd.head))) | exact Upd.tail (Upd.tail (Upd.tail (Upd.tail (Upd.tail Upd.head)))) | exact Upd.tail (Upd.tail (Upd.tail (Upd.tail (Upd.tail (Upd.tail Upd.head)))))) (by first | rfl | exact Enc.len _ _) (by repeat (first | exact Ones.nil | exact Enc.ones _ _ | refine Ones.cons rfl ?_)) (by first | exact Nat.le_of_ble_eq_true rfl | (simp only [Enc.len]; decide)) ?_
            refine RW.assign rfl rfl ?_
            refine RW.nil (EX.seq (CW.seq (CW.region ?_)))
            refine RW.fieldB fl30x0 rfl rfl ?_
            refine RW.loadB1 sc3 rfl rfl (by first | exact Has.head | exact Has.tail Has.head | exact Has.tail (Has.tail Has.head) | exact Has.tail (Has.tail (Has.tail Has.head)) | exact Has.tail (Has.tail (Has.tail (Has.tail Has.head))) | exact Has.tail (Has.tail (Has.tail (Has.tail (Has.tail Has.head)))) | exact Has.tail (Has.tail (Has.tail (Has.tail (Has.tail (Has.tail Has.head)))))) rfl ?_
            refine RW.nil (EX.seq (CW.block (CW.seq (CW.region ?_))))
            refine RW.eqlI rfl rfl rfl ?_
            refine RW.assign rfl rfl ?_
            refine RW.nil (EX.seq ?_)
            -- mq: cond
            have htb := tail_bound (fl := fl) h1 h2 1
            subst hm
            have hd0 : (Lib.decDigits m).length ≤ 21 := dec_len_le (by omega)
            have hd1 : (Lib.decDigits (m / 65536)).length ≤ 21 := dec_len_le (by omega)
            have hd2 : (Lib.decDigits (m / 256 % 256)).length ≤ 21 := dec_len_le (by omega)
            have hd3 : (Lib.decDigits (m % 256)).length ≤ 21 := dec_len_le (by omega)
            first | refine CW.condD rfl (fun hk1 => ?_) (fun hk1 => ?_) | refine CW.cond rfl (fun hk1 => ?_) (fun hk1 => ?_)
            · skip
              refine CW.region ?_
              refine RW.move rfl rfl ?_
              refine RW.catS rfl rfl rfl (by first | omega | (simp only [List.length_append, List.length_cons, List.length_nil]; omega)) ?_
              refine RW.move rfl rfl ?_
              refine RW.catS rfl rfl rfl (by first | omega | (simp only [List.length_append, List.length_cons, List.length_nil]; omega)) ?_
              refine RW.catS rfl rfl rfl (by first | omega | (simp only [List.length_append, List.length_cons, List.length_nil]; omega)) ?_
              refine RW.fieldB fl30x1 rfl rfl ?_
              refine RW.loadB1 sc3 rfl rfl (by first | exact Has.head | exact Has.tail Has.head | exact Has.tail (Has.tail Has.head) | exact Has.tail (Has.tail (Has.tail Has.head)) | exact Has.tail (Has.tail (Has.tail (Has.tail Has.head))) | exact Has.tail (Has.tail (Has.tail (Has.tail (Has.tail Has.head)))) | exact Has.tail (Has.tail (Has.tail (Has.tail (Has.tail (Has.tail Has.head)))))) rfl ?_
              refine RW.call rfl ca20 rfl (fun w' hw' => refDigits_c w' m (by omega)) ?_
              refine RW.catS rfl rfl rfl (by first | omega | (simp only [List.length_append, List.length_cons, List.length_nil]; omega)) ?_
              refine RW.assign rfl rfl ?_
              refine RW.nil (EX.bkN (EX.bkN (EX.seq (CW.region ?_))))
              refine RW.move rfl rfl ?_
              refine RW.add rfl rfl rfl (wrap64 (by omega) (by omega)) ?_
              refine RW.assign rfl rfl ?_
              refine RW.nil ?_
              -- mq: loopend
              have e : 48 :: tailT (flagsL fl 10 ++ paintTo fk fn bk (m : Int) 2) = (((48 :: tailT (flagsL fl 10 ++ paintTo fk fn bk (m : Int) 1) ++ [59]) ++ [52, 56]) ++ [59, 53, 59]) ++ Lib.decDigits m := by
                skip
                rw [show paintTo fk fn bk (m : Int) 2 = paintTo fk fn bk (m : Int) 1 ++ paintL bk (m : Int) 48 from rfl, ← List.append_assoc, tailT_append (flagsL fl 10 ++ _), paintL, if_pos hk1]
                simp [tailT, Lib.itoa_nonneg, itoa48, itoa5]
              refine EX.lpN 2 (by omega) (by omega) (by rw [e]; exact (by repeat (first | exact Sub.nil | refine Sub.cons (by rfl) ?_))) (fun w' hw' => hw'.rem Rem.head)
            · skip
              refine CW.seq (CW.region ?_)
              refine RW.eqlI rfl rfl rfl ?_
              refine RW.assign rfl rfl ?_
              refine RW.nil (EX.seq ?_)
              -- mq: cond
              first | refine CW.condD rfl (fun hk2 => ?_) (fun hk2 => ?_) | refine CW.cond rfl (fun hk2 => ?_) (fun hk2 => ?_)
              · skip
                refine CW.drawU [0, 1, 2, 3, 4, 5, 6, 7, 11, 12, 13, 14, 18, 19, 20] 3 [[(8, false, [9, 10]), (15, false, [16, 17]), (21, false, [22, 23])]] (SH w1 (feet [blk g1 [.int .i64 fk, .int .i64 fn, .int .i64 bk, .int .i64 (m : Int), .int .i64 (fl : Int)] 32]) [blk g7 [.int .i64 bk, .int .i64 (m : Int)] 30, blk g1 [.int .i64 fk, .int .i64 fn, .int .i64 bk, .int .i64 (m : Int), .int .i64 (fl : Int)] 32]) mixed (by kernel_rfl) (fun _ hw => hw.drew) (fun _ h => (by first | trivial | exact h | exact h.ch | exact (h.rem Rem.head).ch | exact ((h.rem Rem.head).rem Rem.head).ch | exact (((h.rem Rem.head).rem Rem.head).rem Rem.head).ch)) ?_
                refine QuP.cons rfl (fun wq hq => (RW.move rfl rfl RW.jn)) ?_
                refine QuP.cons rfl (fun wq hq => (RW.catS rfl rfl rfl (by first | omega | (simp only [List.length_append, List.length_cons, List.length_nil]; omega)) RW.jn)) ?_
                refine QuP.cons rfl (fun wq hq => (RW.move rfl rfl RW.jn)) ?_
                refine QuP.cons rfl (fun wq hq => (RW.catS rfl rfl rfl (by first | omega | (simp only [List.length_append, List.length_cons, List.length_nil]; omega)) RW.jn)) ?_
                refine QuP.cons rfl (fun wq hq => (RW.catS rfl rfl rfl (by first | omega | (simp only [List.length_append, List.length_cons, List.length_nil]; omega)) RW.jn)) ?_
                refine QuP.cons rfl (fun wq hq => (RW.fieldB fl30x1 rfl rfl RW.jn)) ?_
                refine QuP.cons rfl (fun wq hq => (RW.load1 sc3 rfl rfl (fun w1 e1 => by subst e1; exact hq.blk_cell (by first | exact Has.head | exact Has.tail Has.head | exact Has.tail (Has.tail Has.head) | exact Has.tail (Has.tail (Has.tail Has.head)) | exact Has.tail (Has.tail (Has.tail (Has.tail Has.head))) | exact Has.tail (Has.tail (Has.tail (Has.tail (Has.tail Has.head)))) | exact Has.tail (Has.tail (Has.tail (Has.tail (Has.tail (Has.tail Has.head)))))) rfl) RW.jn)) ?_
                refine QuP.cons rfl (fun wq hq => (RW.quoN rfl rfl rfl (by omega) (by omega) (by omega) RW.jn)) ?_
                refine QuP.cons rfl (fun wq hq => (RW.fieldB fl30x1 rfl rfl RW.jn)) ?_
                refine QuP.cons rfl (fun wq hq => (RW.load1 sc3 rfl rfl (fun w1 e1 => by subst e1; exact hq.blk_cell (by first | exact Has.head | exact Has.tail Has.head | exact Has.tail (Has.tail Has.head) | exact Has.tail (Has.tail (Has.tail Has.head)) | exact Has.tail (Has.tail (Has.tail (Has.tail Has.head))) | exact Has.tail (Has.tail (Has.tail (Has.tail (Has.tail Has.head)))) | exact Has.tail (Has.tail (Has.tail (Has.tail (Has.tail (Has.tail Has.head)))))) rfl) RW.jn)) ?_
                refine QuP.cons rfl (fun wq hq => (RW.quoN rfl rfl rfl (by omega) (by omega) (by omega) RW.jn)) ?_
                refine QuP.cons rfl (fun wq hq => (RW.remN rfl rfl rfl (by omega) (by omega) RW.jn)) ?_
                refine QuP.cons rfl (fun wq hq => (RW.fieldB fl30x1 rfl rfl RW.jn)) ?_
                refine QuP.cons rfl (fun wq hq => (RW.load1 sc3 rfl rfl (fun w1 e1 => by subst e1; exact hq.blk_cell (by first | exact Has.head | exact Has.tail Has.head | exact Has.tail (Has.tail Has.head) | exact Has.tail (Has.tail (Has.tail Has.head)) | exact Has.tail (Has.tail (Has.tail (Has.tail Has.head))) | exact Has.tail (Has.tail (Has.tail (Has.tail (Has.tail Has.head)))) | exact Has.tail (Has.tail (Has.tail (Has.tail (Has.tail (Has.tail Has.head)))))) rfl) RW.jn)) ?_
                refine QuP.cons rfl (fun wq hq => (RW.remN rfl rfl rfl (by omega) (by omega) RW.jn)) ?_
                refine QuP.nil ?_
                refine UW.step [_] rfl (List.forall_mem_cons.2 ⟨?_, by simp⟩)
                refine RW.call rfl ca20 rfl (fun w' hw' => refDigits_c w' (m / 65536) (by omega)) ?_
                refine RW.st (fun _ => True) (fun _ h => .inr (by first | trivial | exact h | exact h.ch | exact (h.rem Rem.head).ch | exact ((h.rem Rem.head).rem Rem.head).ch | exact (((h.rem Rem.head).rem Rem.head).rem Rem.head).ch)) (fun _ h => trivial) ?_
                refine QuP.cons rfl (fun wq hq => (RW.catS rfl rfl rfl (by first | omega | (simp only [List.length_append, List.length_cons, List.length_nil]; omega)) RW.jn)) ?_
                refine QuP.cons rfl (fun wq hq => (RW.catS rfl rfl rfl (by first | omega | (simp only [List.length_append, List.length_cons, List.length_nil]; omega)) RW.jn)) ?_
                refine QuP.nil ?_
                refine UW.step [_] rfl (List.forall_mem_cons.2 ⟨?_, by simp⟩)
                refine RW.call rfl ca20 rfl (fun w' hw' => refDigits_c w' (m / 256 % 256) (by omega)) ?_
                refine RW.st (fun _ => True) (fun _ h => .inr ⟨.inr (by first | trivial | exact h | exact h.ch | exact (h.rem Rem.head).ch | exact ((h.rem Rem.head).rem Rem.head).ch | exact (((h.rem Rem.head).rem Rem.head).rem Rem.head).ch), trivial⟩) (fun _ h => trivial) ?_
                refine QuP.cons rfl (fun wq hq => (RW.catS rfl rfl rfl (by first | omega | (simp only [List.length_append, List.length_cons, List.length_nil]; omega)) RW.jn)) ?_
                refine QuP.cons rfl (fun wq hq => (RW.catS rfl rfl rfl (by first | omega | (simp only [List.length_append, List.length_cons, List.length_nil]; omega)) RW.jn)) ?_
                refine QuP.nil ?_
                refine UW.step [_] rfl (List.forall_mem_cons.2 ⟨?_, by simp⟩)
                refine RW.call rfl ca20 rfl (fun w' hw' => refDigits_c w' (m % 256) (by omega)) ?_
                refine RW.st (fun _ => True) (fun _ h => .inr ⟨.inr ⟨.inr (by first | trivial | exact h | exact h.ch | exact (h.rem Rem.head).ch | exact ((h.rem Rem.head).rem Rem.head).ch | exact (((h.rem Rem.head).rem Rem.head).rem Rem.head).ch), trivial⟩, trivial⟩) (fun _ h => trivial) ?_
                refine QuP.cons rfl (fun wq hq => (RW.catS rfl rfl rfl (by first | omega | (simp only [List.length_append, List.length_cons, List.length_nil]; omega)) RW.jn)) ?_
                refine QuP.cons rfl (fun wq hq => (RW.assign rfl rfl RW.jn)) ?_
                refine QuP.nil ?_
                refine UW.nil (EX.bkN (EX.bkN (EX.seq (CW.region ?_))))
                refine RW.move rfl rfl ?_
                refine RW.add rfl rfl rfl (wrap64 (by omega) (by omega)) ?_
                refine RW.assign rfl rfl ?_
                refine RW.nil ?_
                -- mq: loopend
                have e2 : 48 :: tailT (flagsL fl 10 ++ paintTo fk fn bk (m : Int) 2) = (((((((48 :: tailT (flagsL fl 10 ++ paintTo fk fn bk (m : Int) 1) ++ [59]) ++ [52, 56]) ++ [59, 50, 59]) ++ Lib.decDigits (m / 65536)) ++ [59]) ++ Lib.decDigits (m / 256 % 256)) ++ [59]) ++ Lib.decDigits (m % 256) := by
                  skip
                  rw [show paintTo fk fn bk (m : Int) 2 = paintTo fk fn bk (m : Int) 1 ++ paintL bk (m : Int) 48 from rfl, ← List.append_assoc, tailT_append (flagsL fl 10 ++ _), paintL, if_neg hk1, if_pos hk2, show (m : Int) / 65536 = ((m / 65536 : Nat) : Int) from rfl, show (m : Int) / 256 % 256 = ((m / 256 % 256 : Nat) : Int) from rfl, show (m : Int) % 256 = ((m % 256 : Nat) : Int) from rfl]
                  simp only [tailT, List.flatMap_cons, List.flatMap_nil, Lib.itoa_nonneg, itoa48, itoa2]
                  simp
                refine EX.lpN 2 (by omega) (by omega) (by rw [e2]; exact (by repeat (first | exact Sub.nil | refine Sub.cons (by rfl) ?_))) (fun w' hw' => hw'.rem Rem.head)
              · skip
                refine CW.skip (EX.bkN (EX.bkN (EX.seq (CW.region ?_))))
                refine RW.move rfl rfl ?_
                refine RW.add rfl rfl rfl (wrap64 (by omega) (by omega)) ?_
                refine RW.assign rfl rfl ?_
                refine RW.nil ?_
                -- mq: loopend
                refine EX.lpN 2 (by omega) (by omega) (by rw [show paintTo fk fn bk (m : Int) 2 = paintTo fk fn bk (m : Int) 1 from by rw [show paintTo fk fn bk (m : Int) 2 = paintTo fk fn bk (m : Int) 1 ++ paintL bk (m : Int) 48 from rfl, paintL, if_neg hk1, if_neg hk2, List.append_nil]]; exact (by repeat (first | exact Sub.nil | refine Sub.cons (by rfl) ?_))) (fun w' hw' => hw'.rem Rem.head)
        · skip
          have hj2 : j = 2 := by omega
          subst hj2
          refine CW.exit (EX.seqE (EX.lpE (EX.bkE (EX.seq (CW.seq (CW.region ?_))))))
          refine RW.move rfl rfl ?_
          refine RW.assign rfl rfl ?_
          refine RW.nil (EX.seq (CW.ret ?_))
          refine EX.fin1 Tryd.results27 rfl (fun wz hw => ?_)
          -- mq: done
          exact ⟨by rw [show paintTo fk fn bk bn 2 = paintL fk fn 38 ++ paintL bk bn 48 from rfl, List.append_assoc], hx1.trans hw.ext (fun x hx hlt => hcv x hx hlt)⟩
theorem itoa0 : Lib.itoa 0 = [48] := by
  rw [show (0 : Int) = ((0 : Nat) : Int) from rfl, Lib.itoa_nonneg, dec_small (by decide)]; rfl
theorem refTextA_c (w : World) (a : AtV) (hr : rightF a = true) : Calls Tryd.prog 27 [atV a].toArray w (fun e w' => e = .returned (.string (bs (textF a))) ∧ Ext [] w w') := by
  obtain ⟨fk, fn, bk, bn, fli⟩ := a
  have hr2 := hr
  simp only [rightF, Bool.and_eq_true, decide_eq_true_eq] at hr2
  obtain ⟨hc1, hc2, hf0, hf1, _⟩ := hr2
  obtain ⟨fl, rfl⟩ : ∃ m : Nat, fli = m := ⟨fli.toNat, by omega⟩
  have h := refText_c w fk fn bk bn fl hc1 hc2 (by omega)
  rw [textF, if_pos hr, textL, List.cons_append, List.cons_append, numsT_tail, itoa0]
  exact h
end Go.Proofs.YtjplfonmdjnplaaDoor.Mq
