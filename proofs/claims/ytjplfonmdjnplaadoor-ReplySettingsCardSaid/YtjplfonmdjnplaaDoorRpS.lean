/- reply: Setting of program and reference; the walk of ReplySettings -/
import Derived.Test.YtjplfonmdjnplaaDoorRp1
import Derived.Test.YtjplfonmdjnplaaDoorAsD
namespace Go.Proofs.YtjplfonmdjnplaaDoor.Mq
open Go Go.RowKit Go.Proofs

def setT (name : List UInt8) (a : AtV) (t b : Nat) : List UInt8 :=
  if name = [109] then [27, 80, 49, 36, 114] ++ (if rightF a = true then textF a else [48]) ++ [109, 27, 92]
  else if name = [114] then [27, 80, 49, 36, 114] ++ Lib.decDigits (t + 1) ++ [59] ++ Lib.decDigits (b + 1) ++ [114, 27, 92]
  else [27, 80, 48, 36, 114, 27, 92]
theorem textF_le (a : AtV) : (textF a).length ≤ 500 := by
  by_cases hr : rightF a = true
  · have hr2 := hr
    obtain ⟨fk, fn, bk, bn, fli⟩ := a
    simp only [rightF, Bool.and_eq_true, decide_eq_true_eq] at hr2
    obtain ⟨hc1, hc2, hf0, hf1, _⟩ := hr2
    obtain ⟨fl, rfl⟩ : ∃ m : Nat, fli = m := ⟨fli.toNat, by omega⟩
    have h1 := numsT_len _ (textL_64 hc1 hc2 (fl := fl) (by omega))
    have h2 := flagsL_len fl 10
    have h3 := paintL_len fk fn 38
    have h4 := paintL_len bk bn 48
    have h5 : (textL ⟨fk, fn, bk, bn, (fl : Int)⟩).length ≤ 21 := by
      simp only [textL, Int.toNat_natCast, List.length_append, List.length_cons]
      omega
    rw [textF, if_pos hr]
    omega
  · rw [textF, if_neg hr]; simp
theorem textF_ne {a : AtV} (h : rightF a = true) : textF a ≠ [] := by
  rw [textF, if_pos h, textL, List.cons_append, List.cons_append, numsT_tail, itoa0]
  simp
theorem setting_c (w : World) (hg : Gl w) (name : List UInt8) (a : AtV) (h64 : -9223372036854775808 ≤ a.fl ∧ a.fl ≤ 9223372036854775807) (t b : Int) :
    Calls Tryd.prog 13 [.string (bs name), atV a, .int .i64 t, .int .i64 b].toArray w (fun e w' => e = .returned (.string (bs (setT name a (sideN t) (sideN b)))) ∧ Ext [] w w') := by
  have ht := sideN_le t
  have hb := sideN_le b
  have hx := textF_le a
  refine calls (n := 34) Tryd.func13 rfl Tryd.ntmps13 rfl ?_
  refine CW.sub (H' := SH w [] []) ?_ (Sub.refl _) (fun x hx => SH.start' _ _ hx)
  refine CW.seq (CW.region ?_)
  refine RW.boxA rfl rfl (fun g5 hg5 hf5 => ?_)
  refine RW.assign rfl rfl ?_
  refine RW.nil (EX.seq (CW.seq (CW.seq (CW.region ?_))))
  refine RW.move rfl rfl ?_
  refine RW.nil (EX.seq (CW.block (CW.seq (CW.region ?_))))
  refine RW.eqlS rfl rfl rfl ?_
  refine RW.assign rfl rfl ?_
  refine RW.nil (EX.seq ?_)
  -- mq: cond
  first | refine CW.condD rfl (fun h1 => ?_) (fun h1 => ?_) | refine CW.cond rfl (fun h1 => ?_) (fun h1 => ?_)
  · skip
    refine CW.seq ?_
    -- mq: region
    refine CW.region ?_
    refine RW.loadBA ag32 rfl rfl (by first | exact Has.head | exact Has.tail Has.head | exact Has.tail (Has.tail Has.head) | exact Has.tail (Has.tail (Has.tail Has.head)) | exact Has.tail (Has.tail (Has.tail (Has.tail Has.head))) | exact Has.tail (Has.tail (Has.tail (Has.tail (Has.tail Has.head)))) | exact Has.tail (Has.tail (Has.tail (Has.tail (Has.tail (Has.tail Has.head)))))) rfl rfl ?_
    refine RW.call rfl ca25 rfl (fun w' hw' => text_c w' (hg.ext hw'.ext) a h64) ?_
    refine RW.assign rfl rfl ?_
    refine RW.nil (EX.seq (CW.seq (CW.seq (CW.region ?_))))
    refine RW.move rfl rfl ?_
    refine RW.eqlS rfl rfl rfl ?_
    refine RW.nil (EX.seq ?_)
    -- mq: cond
    first | refine CW.condD rfl (fun h2 => ?_) (fun h2 => ?_) | refine CW.cond rfl (fun h2 => ?_) (fun h2 => ?_)
    · skip
      refine CW.region ?_
      refine RW.assign rfl rfl ?_
      refine RW.nil (EX.seq (CW.seq (CW.region ?_)))
      refine RW.move rfl rfl ?_
      refine RW.catS rfl rfl rfl (by first | omega | (simp only [List.length_append, List.length_cons, List.length_nil]; omega)) ?_
      refine RW.catS rfl rfl rfl (by first | omega | (simp only [List.length_append, List.length_cons, List.length_nil]; omega)) ?_
      refine RW.catS rfl rfl rfl (by first | omega | (simp only [List.length_append, List.length_cons, List.length_nil]; omega)) ?_
      refine RW.assign rfl rfl ?_
      refine RW.nil (EX.seq (CW.ret (EX.bkR (EX.seqR ?_))))
      refine EX.fin1 Tryd.results13 rfl (fun wz hw => ?_)
      -- mq: done
      refine ⟨?_, hw.ext⟩
      rw [setT, if_pos h1, if_neg (fun h => textF_ne h h2)]
      rfl
    · skip
      refine CW.skip (EX.seq (CW.seq (CW.region ?_)))
      refine RW.move rfl rfl ?_
      refine RW.catS rfl rfl rfl (by first | omega | (simp only [List.length_append, List.length_cons, List.length_nil]; omega)) ?_
      refine RW.catS rfl rfl rfl (by first | omega | (simp only [List.length_append, List.length_cons, List.length_nil]; omega)) ?_
      refine RW.catS rfl rfl rfl (by first | omega | (simp only [List.length_append, List.length_cons, List.length_nil]; omega)) ?_
      refine RW.assign rfl rfl ?_
      refine RW.nil (EX.seq (CW.ret (EX.bkR (EX.seqR ?_))))
      refine EX.fin1 Tryd.results13 rfl (fun wz hw => ?_)
      -- mq: done
      refine ⟨?_, hw.ext⟩
      rw [setT, if_pos h1, if_pos (by
        cases hr : rightF a with
        | true => rfl
        | false => exact absurd (by rw [textF, if_neg (by simp [hr])]) h2)]
      simp
  · skip
    refine CW.seq (CW.region ?_)
    refine RW.eqlS rfl rfl rfl ?_
    refine RW.assign rfl rfl ?_
    refine RW.nil (EX.seq ?_)
    -- mq: cond
    first | refine CW.condD rfl (fun h2 => ?_) (fun h2 => ?_) | refine CW.cond rfl (fun h2 => ?_) (fun h2 => ?_)
    · skip
      have hl1 := ds_len (n := sideN t + 1) (by omega)
      have hl2 := ds_len (n := sideN b + 1) (by omega)
      refine CW.seq (CW.region ?_)
      refine RW.move rfl rfl ?_
      refine RW.call rfl ca19 rfl (fun w' _ => side_c w' t) ?_
      refine RW.add rfl rfl rfl (wrap64 (by omega) (by omega)) ?_
      refine RW.move rfl rfl ?_
      refine RW.call rfl ca19 rfl (fun w' _ => side_c w' b) ?_
      refine RW.add rfl rfl rfl (wrap64 (by omega) (by omega)) ?_
      refine RW.buildSlc sl44 rfl rfl rfl rfl (fun g29 hg29 hf29 => ?_)
      refine RW.call rfl ca18 rfl (fun w' hw' => numbers_c w' (hg.ext hw'.ext) _ _ _ _ [((sideN t + 1 : Nat) : Int), ((sideN b + 1 : Nat) : Int)] (Rd.of_blk (E := EInt) hw' Has.head rfl (by decide)) (by decide) (by intro z hz; simp at hz; omega)) ?_
      -- mq: at
      rw [nums2]
      refine RW.catS rfl rfl rfl (by first | omega | (simp only [List.length_append, List.length_cons, List.length_nil]; omega)) ?_
      refine RW.catS rfl rfl rfl (by first | omega | (simp only [List.length_append, List.length_cons, List.length_nil]; omega)) ?_
      refine RW.catS rfl rfl rfl (by first | omega | (simp only [List.length_append, List.length_cons, List.length_nil]; omega)) ?_
      refine RW.assign rfl rfl ?_
      refine RW.nil (EX.seq (CW.ret (EX.bkR (EX.seqR ?_))))
      refine EX.fin1 Tryd.results13 rfl (fun wz hw => ?_)
      -- mq: done
      refine ⟨?_, hw.ext⟩
      rw [setT, if_neg h1, if_pos h2]
      simp
    · skip
      refine CW.skip (EX.bkN (EX.seq (CW.seq (CW.region ?_))))
      refine RW.assign rfl rfl ?_
      refine RW.nil (EX.seq (CW.ret ?_))
      refine EX.fin1 Tryd.results13 rfl (fun wz hw => ?_)
      -- mq: done
      refine ⟨?_, hw.ext⟩
      rw [setT, if_neg h1, if_neg h2]
theorem refSetting_c (w : World) (name : List UInt8) (a : AtV) (t b : Int) :
    Calls Tryd.prog 14 [.string (bs name), atV a, .int .i64 t, .int .i64 b].toArray w (fun e w' => e = .returned (.string (bs (setT name a (sideN t) (sideN b)))) ∧ Ext [] w w') := by
  have ht := sideN_le t
  have hb := sideN_le b
  have hx := textF_le a
  have hl1 := ds_len (n := sideN t + 1) (by omega)
  have hl2 := ds_len (n := sideN b + 1) (by omega)
  refine calls (n := 35) Tryd.func14 rfl Tryd.ntmps14 rfl ?_
  refine CW.sub (H' := SH w [] []) ?_ (Sub.refl _) (fun x hx => SH.start' _ _ hx)
  refine CW.seq (CW.region ?_)
  refine RW.boxA rfl rfl (fun g5 hg5 hf5 => ?_)
  refine RW.assign rfl rfl ?_
  refine RW.nil (EX.seq (CW.seq (CW.region ?_)))
  refine RW.assign rfl rfl ?_
  refine RW.nil (EX.seq (CW.seq (CW.seq (CW.region ?_))))
  refine RW.move rfl rfl ?_
  refine RW.eqlS rfl rfl rfl ?_
  refine RW.nil (EX.seq ?_)
  -- mq: cond
  first | refine CW.condD rfl (fun h1 => ?_) (fun h1 => ?_) | refine CW.cond rfl (fun h1 => ?_) (fun h1 => ?_)
  · skip
    have h2 : ¬ name = [114] := by rw [h1]; decide
    refine CW.seq (CW.region ?_)
    refine RW.assign rfl rfl ?_
    refine RW.nil (EX.seq (CW.seq ?_))
    -- mq: region
    refine CW.region ?_
    refine RW.loadBA ag32 rfl rfl (by first | exact Has.head | exact Has.tail Has.head | exact Has.tail (Has.tail Has.head) | exact Has.tail (Has.tail (Has.tail Has.head)) | exact Has.tail (Has.tail (Has.tail (Has.tail Has.head))) | exact Has.tail (Has.tail (Has.tail (Has.tail (Has.tail Has.head)))) | exact Has.tail (Has.tail (Has.tail (Has.tail (Has.tail (Has.tail Has.head)))))) rfl rfl ?_
    refine RW.call rfl ca26 rfl (fun w' _ => refRight_c w' a) ?_
    refine RW.nil (EX.seq ?_)
    -- mq: cond
    first | refine CW.condD rfl (fun hr => ?_) (fun hr => ?_) | refine CW.cond rfl (fun hr => ?_) (fun hr => ?_)
    · skip
      refine CW.region ?_
      refine RW.loadBA ag32 rfl rfl (by first | exact Has.head | exact Has.tail Has.head | exact Has.tail (Has.tail Has.head) | exact Has.tail (Has.tail (Has.tail Has.head)) | exact Has.tail (Has.tail (Has.tail (Has.tail Has.head))) | exact Has.tail (Has.tail (Has.tail (Has.tail (Has.tail Has.head)))) | exact Has.tail (Has.tail (Has.tail (Has.tail (Has.tail (Has.tail Has.head)))))) rfl rfl ?_
      refine RW.call rfl ca27 rfl (fun w' _ => refTextA_c w' a hr) ?_
      refine RW.catS rfl rfl rfl (by first | omega | (simp only [List.length_append, List.length_cons, List.length_nil]; omega)) ?_
      refine RW.catS rfl rfl rfl (by first | omega | (simp only [List.length_append, List.length_cons, List.length_nil]; omega)) ?_
      refine RW.assign rfl rfl ?_
      refine RW.nil (EX.seq (CW.seq (CW.seq (CW.region ?_))))
      refine RW.move rfl rfl ?_
      refine RW.eqlS rfl rfl rfl ?_
      refine RW.nil (EX.seq ?_)
      -- mq: cond
      refine CW.condF rfl ((decide_eq_false h2)) ?_
      refine CW.skip (EX.seq (CW.seq (CW.region ?_)))
      refine RW.move rfl rfl ?_
      refine RW.catS rfl rfl rfl (by first | omega | (simp only [List.length_append, List.length_cons, List.length_nil]; omega)) ?_
      refine RW.catS rfl rfl rfl (by first | omega | (simp only [List.length_append, List.length_cons, List.length_nil]; omega)) ?_
      refine RW.assign rfl rfl ?_
      refine RW.nil (EX.seq (CW.ret ?_))
      refine EX.fin1 Tryd.results14 rfl (fun wz hw => ?_)
      -- mq: done
      refine ⟨?_, hw.ext⟩
      rw [setT, if_pos h1, if_pos hr]
      simp
    · skip
      refine CW.skip (EX.seq (CW.seq (CW.seq (CW.region ?_))))
      refine RW.move rfl rfl ?_
      refine RW.eqlS rfl rfl rfl ?_
      refine RW.nil (EX.seq ?_)
      -- mq: cond
      refine CW.condF rfl ((decide_eq_false h2)) ?_
      refine CW.skip (EX.seq (CW.seq (CW.region ?_)))
      refine RW.move rfl rfl ?_
      refine RW.catS rfl rfl rfl (by first | omega | (simp only [List.length_append, List.length_cons, List.length_nil]; omega)) ?_
      refine RW.catS rfl rfl rfl (by first | omega | (simp only [List.length_append, List.length_cons, List.length_nil]; omega)) ?_
      refine RW.assign rfl rfl ?_
      refine RW.nil (EX.seq (CW.ret ?_))
      refine EX.fin1 Tryd.results14 rfl (fun wz hw => ?_)
      -- mq: done
      refine ⟨?_, hw.ext⟩
      rw [setT, if_pos h1, if_neg (by simp [hr])]
      rfl
  · skip
    refine CW.skip (EX.seq (CW.seq (CW.seq (CW.region ?_))))
    refine RW.move rfl rfl ?_
    refine RW.eqlS rfl rfl rfl ?_
    refine RW.nil (EX.seq ?_)
    -- mq: cond
    first | refine CW.condD rfl (fun h2 => ?_) (fun h2 => ?_) | refine CW.cond rfl (fun h2 => ?_) (fun h2 => ?_)
    · skip
      refine CW.region ?_
      refine RW.move rfl rfl ?_
      refine RW.call rfl ca21 rfl (fun w' _ => near_c w' t) ?_
      refine RW.add rfl rfl rfl (wrap64 (by omega) (by omega)) ?_
      refine RW.call rfl ca20 rfl (fun w' _ => refDigits_c w' (sideN t + 1) (by omega)) ?_
      refine RW.catS rfl rfl rfl (by first | omega | (simp only [List.length_append, List.length_cons, List.length_nil]; omega)) ?_
      refine RW.catS rfl rfl rfl (by first | omega | (simp only [List.length_append, List.length_cons, List.length_nil]; omega)) ?_
      refine RW.move rfl rfl ?_
      refine RW.call rfl ca21 rfl (fun w' _ => near_c w' b) ?_
      refine RW.add rfl rfl rfl (wrap64 (by omega) (by omega)) ?_
      refine RW.call rfl ca20 rfl (fun w' _ => refDigits_c w' (sideN b + 1) (by omega)) ?_
      refine RW.catS rfl rfl rfl (by first | omega | (simp only [List.length_append, List.length_cons, List.length_nil]; omega)) ?_
      refine RW.catS rfl rfl rfl (by first | omega | (simp only [List.length_append, List.length_cons, List.length_nil]; omega)) ?_
      refine RW.assign rfl rfl ?_
      refine RW.nil (EX.seq (CW.seq (CW.region ?_)))
      refine RW.move rfl rfl ?_
      refine RW.catS rfl rfl rfl (by first | omega | (simp only [List.length_append, List.length_cons, List.length_nil]; omega)) ?_
      refine RW.catS rfl rfl rfl (by first | omega | (simp only [List.length_append, List.length_cons, List.length_nil]; omega)) ?_
      refine RW.assign rfl rfl ?_
      refine RW.nil (EX.seq (CW.ret ?_))
      refine EX.fin1 Tryd.results14 rfl (fun wz hw => ?_)
      -- mq: done
      refine ⟨?_, hw.ext⟩
      rw [setT, if_neg h1, if_pos h2]
      simp
    · skip
      refine CW.skip (EX.seq (CW.seq (CW.region ?_)))
      refine RW.move rfl rfl ?_
      refine RW.catS rfl rfl rfl (by first | omega | (simp only [List.length_append, List.length_cons, List.length_nil]; omega)) ?_
      refine RW.catS rfl rfl rfl (by first | omega | (simp only [List.length_append, List.length_cons, List.length_nil]; omega)) ?_
      refine RW.assign rfl rfl ?_
      refine RW.nil (EX.seq (CW.ret ?_))
      refine EX.fin1 Tryd.results14 rfl (fun wz hw => ?_)
      -- mq: done
      refine ⟨?_, hw.ext⟩
      rw [setT, if_neg h1, if_neg h2]
      rfl
theorem settings_c (w : World) (hg : Gl w) (name : List UInt8) (a : AtV) (h64 : -9223372036854775808 ≤ a.fl ∧ a.fl ≤ 9223372036854775807) (t b : Int) :
    Calls Tryd.prog 5 [.string (bs name), atV a, .agg [Value.int .i64 t, .int .i64 b].toArray].toArray w (fun e w' => e = .returned (.bool true) ∧ Ext [] w w') := by
  refine calls (n := 40) Tryd.func5 rfl Tryd.ntmps5 rfl ?_
  refine CW.sub (H' := SH w [] []) ?_ (Sub.refl _) (fun x hx => SH.start' _ _ hx)
  refine CW.seq (CW.region ?_)
  refine RW.boxA rfl rfl (fun g4 hg4 hf4 => ?_)
  refine RW.boxA rfl rfl (fun g5 hg5 hf5 => ?_)
  refine RW.assign rfl rfl ?_
  refine RW.nil (EX.seq (CW.seq ?_))
  -- mq: region
  refine CW.drawU [0, 1, 2, 3, 4, 5, 7, 8, 9, 10, 11, 12] 5 [[(6, false, []), (13, false, [14, 15, 16, 17, 18, 19, 20, 22, 23, 24, 25, 26]), (21, false, []), (27, false, [28, 29, 30]), (31, false, [32, 33])]] (Ch [blk g5 [.int .i64 t, .int .i64 b] 33, blk g4 [.int .i64 a.fk, .int .i64 a.fn, .int .i64 a.bk, .int .i64 a.bn, .int .i64 a.fl] 32]) mixed (by kernel_rfl) (fun _ hw => hw.drew) (fun _ h => (by first | trivial | exact h | exact h.ch | exact (h.rem Rem.head).ch | exact ((h.rem Rem.head).rem Rem.head).ch | exact (((h.rem Rem.head).rem Rem.head).rem Rem.head).ch)) ?_
  refine QuP.cons rfl (fun wq hq => (RW.move rfl rfl RW.jn)) ?_
  refine QuP.cons rfl (fun wq hq => (RW.loadA ag32 rfl rfl rfl (fun w1 e1 j u hj => by subst e1; exact hq.blk_at (sz := 5) (by first | exact Has.head | exact Has.tail Has.head | exact Has.tail (Has.tail Has.head) | exact Has.tail (Has.tail (Has.tail Has.head)) | exact Has.tail (Has.tail (Has.tail (Has.tail Has.head))) | exact Has.tail (Has.tail (Has.tail (Has.tail (Has.tail Has.head)))) | exact Has.tail (Has.tail (Has.tail (Has.tail (Has.tail (Has.tail Has.head)))))) rfl j u hj) RW.jn)) ?_
  refine QuP.cons rfl (fun wq hq => (RW.ixArr (q := 0) Tryd.underlying33 ar33 rfl rfl rfl (by omega) (by omega) RW.jn)) ?_
  refine QuP.cons rfl (fun wq hq => (RW.load1 sc3 rfl rfl (fun w1 e1 => by subst e1; exact hq.blk_cell (by first | exact Has.head | exact Has.tail Has.head | exact Has.tail (Has.tail Has.head) | exact Has.tail (Has.tail (Has.tail Has.head)) | exact Has.tail (Has.tail (Has.tail (Has.tail Has.head))) | exact Has.tail (Has.tail (Has.tail (Has.tail (Has.tail Has.head)))) | exact Has.tail (Has.tail (Has.tail (Has.tail (Has.tail (Has.tail Has.head)))))) rfl) RW.jn)) ?_
  refine QuP.cons rfl (fun wq hq => (RW.ixArr (q := 1) Tryd.underlying33 ar33 rfl rfl rfl (by omega) (by omega) RW.jn)) ?_
  refine QuP.cons rfl (fun wq hq => (RW.load1 sc3 rfl rfl (fun w1 e1 => by subst e1; exact hq.blk_cell (by first | exact Has.head | exact Has.tail Has.head | exact Has.tail (Has.tail Has.head) | exact Has.tail (Has.tail (Has.tail Has.head)) | exact Has.tail (Has.tail (Has.tail (Has.tail Has.head))) | exact Has.tail (Has.tail (Has.tail (Has.tail (Has.tail Has.head)))) | exact Has.tail (Has.tail (Has.tail (Has.tail (Has.tail (Has.tail Has.head)))))) rfl) RW.jn)) ?_
  refine QuP.cons rfl (fun wq hq => (RW.move rfl rfl RW.jn)) ?_
  refine QuP.cons rfl (fun wq hq => (RW.loadA ag32 rfl rfl rfl (fun w1 e1 j u hj => by subst e1; exact hq.blk_at (sz := 5) (by first | exact Has.head | exact Has.tail Has.head | exact Has.tail (Has.tail Has.head) | exact Has.tail (Has.tail (Has.tail Has.head)) | exact Has.tail (Has.tail (Has.tail (Has.tail Has.head))) | exact Has.tail (Has.tail (Has.tail (Has.tail (Has.tail Has.head)))) | exact Has.tail (Has.tail (Has.tail (Has.tail (Has.tail (Has.tail Has.head)))))) rfl j u hj) RW.jn)) ?_
  refine QuP.cons rfl (fun wq hq => (RW.ixArr (q := 0) Tryd.underlying33 ar33 rfl rfl rfl (by omega) (by omega) RW.jn)) ?_
  refine QuP.cons rfl (fun wq hq => (RW.load1 sc3 rfl rfl (fun w1 e1 => by subst e1; exact hq.blk_cell (by first | exact Has.head | exact Has.tail Has.head | exact Has.tail (Has.tail Has.head) | exact Has.tail (Has.tail (Has.tail Has.head)) | exact Has.tail (Has.tail (Has.tail (Has.tail Has.head))) | exact Has.tail (Has.tail (Has.tail (Has.tail (Has.tail Has.head)))) | exact Has.tail (Has.tail (Has.tail (Has.tail (Has.tail (Has.tail Has.head)))))) rfl) RW.jn)) ?_
  refine QuP.cons rfl (fun wq hq => (RW.ixArr (q := 1) Tryd.underlying33 ar33 rfl rfl rfl (by omega) (by omega) RW.jn)) ?_
  refine QuP.cons rfl (fun wq hq => (RW.load1 sc3 rfl rfl (fun w1 e1 => by subst e1; exact hq.blk_cell (by first | exact Has.head | exact Has.tail Has.head | exact Has.tail (Has.tail Has.head) | exact Has.tail (Has.tail (Has.tail Has.head)) | exact Has.tail (Has.tail (Has.tail (Has.tail Has.head))) | exact Has.tail (Has.tail (Has.tail (Has.tail (Has.tail Has.head)))) | exact Has.tail (Has.tail (Has.tail (Has.tail (Has.tail (Has.tail Has.head)))))) rfl) RW.jn)) ?_
  refine QuP.nil ?_
  refine UW.step [_] rfl (List.forall_mem_cons.2 ⟨?_, by simp⟩)
  refine RW.call rfl ca13 rfl (fun w' hw' => setting_c w' (hg.ext hw'.ext) name a h64 t b) ?_
  refine RW.st (fun _ => True) (fun _ h => .inr (by first | trivial | exact h | exact h.ch | exact (h.rem Rem.head).ch | exact ((h.rem Rem.head).rem Rem.head).ch | exact (((h.rem Rem.head).rem Rem.head).rem Rem.head).ch)) (fun _ h => trivial) ?_
  refine QuP.nil ?_
  refine UW.step [_] rfl (List.forall_mem_cons.2 ⟨?_, by simp⟩)
  refine RW.call rfl ca14 rfl (fun w' hw' => refSetting_c w' name a t b) ?_
  refine RW.st (Ch [blk g5 [.int .i64 t, .int .i64 b] 33, blk g4 [.int .i64 a.fk, .int .i64 a.fn, .int .i64 a.bk, .int .i64 a.bn, .int .i64 a.fl] 32]) (fun _ h => .inr ⟨.inr (by first | trivial | exact h | exact h.ch | exact (h.rem Rem.head).ch | exact ((h.rem Rem.head).rem Rem.head).ch | exact (((h.rem Rem.head).rem Rem.head).rem Rem.head).ch), trivial⟩) (fun _ h => (by first | trivial | exact h | exact h.ch | exact (h.rem Rem.head).ch | exact ((h.rem Rem.head).rem Rem.head).ch | exact (((h.rem Rem.head).rem Rem.head).rem Rem.head).ch)) ?_
  refine QuP.cons rfl (fun wq hq => (RW.eqlS rfl rfl rfl RW.jn)) ?_
  refine QuP.cons rfl (fun wq hq => (RW.move rfl rfl RW.jn)) ?_
  refine QuP.cons rfl (fun wq hq => RW.guardT rfl rfl ((decide_eq_true rfl)) (RW.loadA ag32 rfl rfl rfl (fun w1 e1 j u hj => by subst e1; exact hq.blk_at (sz := 5) (by first | exact Has.head | exact Has.tail Has.head | exact Has.tail (Has.tail Has.head) | exact Has.tail (Has.tail (Has.tail Has.head)) | exact Has.tail (Has.tail (Has.tail (Has.tail Has.head))) | exact Has.tail (Has.tail (Has.tail (Has.tail (Has.tail Has.head)))) | exact Has.tail (Has.tail (Has.tail (Has.tail (Has.tail (Has.tail Has.head)))))) rfl j u hj) RW.jn)) ?_
  refine QuP.cons rfl (fun wq hq => RW.guardT rfl rfl ((decide_eq_true rfl)) (RW.ixArr (q := 0) Tryd.underlying33 ar33 rfl rfl rfl (by omega) (by omega) RW.jn)) ?_
  refine QuP.cons rfl (fun wq hq => RW.guardT rfl rfl ((decide_eq_true rfl)) (RW.load1 sc3 rfl rfl (fun w1 e1 => by subst e1; exact hq.blk_cell (by first | exact Has.head | exact Has.tail Has.head | exact Has.tail (Has.tail Has.head) | exact Has.tail (Has.tail (Has.tail Has.head)) | exact Has.tail (Has.tail (Has.tail (Has.tail Has.head))) | exact Has.tail (Has.tail (Has.tail (Has.tail (Has.tail Has.head)))) | exact Has.tail (Has.tail (Has.tail (Has.tail (Has.tail (Has.tail Has.head)))))) rfl) RW.jn)) ?_
  refine QuP.cons rfl (fun wq hq => RW.guardT rfl rfl ((decide_eq_true rfl)) (RW.ixArr (q := 1) Tryd.underlying33 ar33 rfl rfl rfl (by omega) (by omega) RW.jn)) ?_
  refine QuP.cons rfl (fun wq hq => RW.guardT rfl rfl ((decide_eq_true rfl)) (RW.load1 sc3 rfl rfl (fun w1 e1 => by subst e1; exact hq.blk_cell (by first | exact Has.head | exact Has.tail Has.head | exact Has.tail (Has.tail Has.head) | exact Has.tail (Has.tail (Has.tail Has.head)) | exact Has.tail (Has.tail (Has.tail (Has.tail Has.head))) | exact Has.tail (Has.tail (Has.tail (Has.tail (Has.tail Has.head)))) | exact Has.tail (Has.tail (Has.tail (Has.tail (Has.tail (Has.tail Has.head)))))) rfl) RW.jn)) ?_
  refine QuP.cons rfl (fun wq hq => RW.guardT rfl rfl ((decide_eq_true rfl)) (RW.loadA ag32 rfl rfl rfl (fun w1 e1 j u hj => by subst e1; exact hq.blk_at (sz := 5) (by first | exact Has.head | exact Has.tail Has.head | exact Has.tail (Has.tail Has.head) | exact Has.tail (Has.tail (Has.tail Has.head)) | exact Has.tail (Has.tail (Has.tail (Has.tail Has.head))) | exact Has.tail (Has.tail (Has.tail (Has.tail (Has.tail Has.head)))) | exact Has.tail (Has.tail (Has.tail (Has.tail (Has.tail (Has.tail Has.head)))))) rfl j u hj) RW.jn)) ?_
  refine QuP.cons rfl (fun wq hq => RW.guardT rfl rfl ((decide_eq_true rfl)) (RW.ixArr (q := 0) Tryd.underlying33 ar33 rfl rfl rfl (by omega) (by omega) RW.jn)) ?_
  refine QuP.cons rfl (fun wq hq => RW.guardT rfl rfl ((decide_eq_true rfl)) (RW.load1 sc3 rfl rfl (fun w1 e1 => by subst e1; exact hq.blk_cell (by first | exact Has.head | exact Has.tail Has.head | exact Has.tail (Has.tail Has.head) | exact Has.tail (Has.tail (Has.tail Has.head)) | exact Has.tail (Has.tail (Has.tail (Has.tail Has.head))) | exact Has.tail (Has.tail (Has.tail (Has.tail (Has.tail Has.head)))) | exact Has.tail (Has.tail (Has.tail (Has.tail (Has.tail (Has.tail Has.head)))))) rfl) RW.jn)) ?_
  refine QuP.cons rfl (fun wq hq => RW.guardT rfl rfl ((decide_eq_true rfl)) (RW.ixArr (q := 1) Tryd.underlying33 ar33 rfl rfl rfl (by omega) (by omega) RW.jn)) ?_
  refine QuP.cons rfl (fun wq hq => RW.guardT rfl rfl ((decide_eq_true rfl)) (RW.load1 sc3 rfl rfl (fun w1 e1 => by subst e1; exact hq.blk_cell (by first | exact Has.head | exact Has.tail Has.head | exact Has.tail (Has.tail Has.head) | exact Has.tail (Has.tail (Has.tail Has.head)) | exact Has.tail (Has.tail (Has.tail (Has.tail Has.head))) | exact Has.tail (Has.tail (Has.tail (Has.tail (Has.tail Has.head)))) | exact Has.tail (Has.tail (Has.tail (Has.tail (Has.tail (Has.tail Has.head)))))) rfl) RW.jn)) ?_
  refine QuP.nil ?_
  refine UW.step [_] rfl (List.forall_mem_cons.2 ⟨?_, by simp⟩)
  refine RW.guardT rfl rfl ((decide_eq_true rfl)) ?_
  refine RW.call rfl ca13 rfl (fun w' hw' => setting_c w' (hg.ext hw'.ext) [109] a h64 t b) ?_
  refine RW.st (fun _ => True) (fun _ h => .inr ⟨.inr ⟨.inr (by first | trivial | exact h | exact h.ch | exact (h.rem Rem.head).ch | exact ((h.rem Rem.head).rem Rem.head).ch | exact (((h.rem Rem.head).rem Rem.head).rem Rem.head).ch), trivial⟩, (by first | trivial | exact h | exact h.ch | exact (h.rem Rem.head).ch | exact ((h.rem Rem.head).rem Rem.head).ch | exact (((h.rem Rem.head).rem Rem.head).rem Rem.head).ch)⟩) (fun _ h => trivial) ?_
  refine QuP.nil ?_
  refine UW.step [_] rfl (List.forall_mem_cons.2 ⟨?_, by simp⟩)
  refine RW.guardT rfl rfl ((decide_eq_true rfl)) ?_
  refine RW.call rfl ca14 rfl (fun w' hw' => refSetting_c w' [109] a t b) ?_
  refine RW.st (fun _ => True) (fun _ h => .inr ⟨.inr ⟨.inr ⟨.inr (by first | trivial | exact h | exact h.ch | exact (h.rem Rem.head).ch | exact ((h.rem Rem.head).rem Rem.head).ch | exact (((h.rem Rem.head).rem Rem.head).rem Rem.head).ch), trivial⟩, (by first | trivial | exact h | exact h.ch | exact (h.rem Rem.head).ch | exact ((h.rem Rem.head).rem Rem.head).ch | exact (((h.rem Rem.head).rem Rem.head).rem Rem.head).ch)⟩, trivial⟩) (fun _ h => trivial) ?_
  refine QuP.cons rfl (fun wq hq => RW.guardT rfl rfl ((decide_eq_true rfl)) (RW.eqlS rfl rfl rfl RW.jn)) ?_
  refine QuP.cons rfl (fun wq hq => (RW.pickB rfl rfl (decide_eq_true rfl) rfl RW.jn)) ?_
  refine QuP.cons rfl (fun wq hq => (RW.move rfl rfl RW.jn)) ?_
  refine QuP.nil ?_
  refine UW.step [_] rfl (List.forall_mem_cons.2 ⟨?_, by simp⟩)
  refine RW.guardT rfl rfl ((decide_eq_true rfl)) ?_
  refine RW.call rfl ca12 rfl (fun w' hw' => awake_c w' (hg.ext hw'.ext)) ?_
  refine RW.st (fun _ => True) (fun _ h => .inr ⟨.inr ⟨.inr ⟨.inr ⟨.inr (by first | trivial | exact h | exact h.ch | exact (h.rem Rem.head).ch | exact ((h.rem Rem.head).rem Rem.head).ch | exact (((h.rem Rem.head).rem Rem.head).rem Rem.head).ch), trivial⟩, (by first | trivial | exact h | exact h.ch | exact (h.rem Rem.head).ch | exact ((h.rem Rem.head).rem Rem.head).ch | exact (((h.rem Rem.head).rem Rem.head).rem Rem.head).ch)⟩, trivial⟩, trivial⟩) (fun _ h => trivial) ?_
  refine QuP.cons rfl (fun wq hq => (RW.pickB rfl rfl (decide_eq_true rfl) rfl RW.jn)) ?_
  refine QuP.cons rfl (fun wq hq => (RW.assign rfl rfl RW.jn)) ?_
  refine QuP.nil ?_
  refine UW.nil (EX.seq (CW.ret ?_))
  refine EX.fin1 Tryd.results5 rfl (fun wz hw => ?_)
  -- mq: done
  exact ⟨rfl, hw.ext⟩
end Go.Proofs.YtjplfonmdjnplaaDoor.Mq
