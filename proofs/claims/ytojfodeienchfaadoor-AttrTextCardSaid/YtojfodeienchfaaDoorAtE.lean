/- attributes: AttrText -/
import Derived.Test.YtojfodeienchfaaDoorAtD
namespace Go.Proofs.YtojfodeienchfaaDoor.Mq
open Go Go.RowKit Go.Proofs

theorem itoa0 : Lib.itoa 0 = [48] := by
  rw [show (0 : Int) = ((0 : Nat) : Int) from rfl, Lib.itoa_nonneg, dec_small (by decide)]; rfl
theorem refTextA_c (w : World) (a : AtV) (hr : rightF a = true) : Calls Tryd.prog 16 [atV a].toArray w (fun e w' => e = .returned (.string (bs (textF a))) ∧ Ext [] w w') := by
  obtain ⟨fk, fn, bk, bn, fli⟩ := a
  have hr2 := hr
  simp only [rightF, Bool.and_eq_true, decide_eq_true_eq] at hr2
  obtain ⟨hc1, hc2, hf0, hf1, _⟩ := hr2
  obtain ⟨fl, rfl⟩ : ∃ m : Nat, fli = m := ⟨fli.toNat, by omega⟩
  have h := refText_c w fk fn bk bn fl hc1 hc2 (by omega)
  rw [textF, if_pos hr, textL, List.cons_append, List.cons_append, numsT_tail, itoa0]
  exact h
theorem attrText_c (w : World) (hg : Gl w) (a : AtV) (h64 : -9223372036854775808 ≤ a.fl ∧ a.fl ≤ 9223372036854775807) :
    Calls Tryd.prog 5 [atV a].toArray w (fun e w' => e = .returned (.bool true) ∧ Ext [] w w') := by
  refine calls (n := 20) Tryd.func5 rfl Tryd.ntmps5 rfl ?_
  refine CW.sub (H' := SH w [] []) ?_ (Sub.refl _) (fun x hx => SH.start' _ _ hx)
  refine CW.seq (CW.region ?_)
  refine RW.boxA rfl rfl (fun g1 hg1 hf1 => ?_)
  refine RW.assign rfl rfl ?_
  refine RW.nil (EX.seq (CW.seq (CW.seq ?_)))
  -- mq: region
  refine CW.region ?_
  refine RW.loadBA ag25 rfl rfl (by first | exact Has.head | exact Has.tail Has.head | exact Has.tail (Has.tail Has.head) | exact Has.tail (Has.tail (Has.tail Has.head)) | exact Has.tail (Has.tail (Has.tail (Has.tail Has.head))) | exact Has.tail (Has.tail (Has.tail (Has.tail (Has.tail Has.head)))) | exact Has.tail (Has.tail (Has.tail (Has.tail (Has.tail (Has.tail Has.head)))))) rfl rfl ?_
  refine RW.call rfl ca9 rfl (fun w' hw' => refRight_c w' a) ?_
  refine RW.not_ rfl rfl ?_
  refine RW.nil (EX.seq ?_)
  -- mq: cond
  first | refine CW.condD rfl (fun h0 => ?_) (fun h0 => ?_) | refine CW.cond rfl (fun h0 => ?_) (fun h0 => ?_)
  · skip
    have hr : ¬ rightF a = true := by simpa using h0
    refine CW.seq (CW.region ?_)
    refine RW.loadBA ag25 rfl rfl (by first | exact Has.head | exact Has.tail Has.head | exact Has.tail (Has.tail Has.head) | exact Has.tail (Has.tail (Has.tail Has.head)) | exact Has.tail (Has.tail (Has.tail (Has.tail Has.head))) | exact Has.tail (Has.tail (Has.tail (Has.tail (Has.tail Has.head)))) | exact Has.tail (Has.tail (Has.tail (Has.tail (Has.tail (Has.tail Has.head)))))) rfl rfl ?_
    refine RW.call rfl ca15 rfl (fun w' hw' => text_c w' (hg.ext hw'.ext) a h64) ?_
    refine RW.eqlS rfl rfl rfl ?_
    refine RW.move rfl rfl ?_
    refine RW.guardT rfl rfl (by rw [textF, if_neg hr]; rfl) ?_
    refine RW.call rfl ca10 rfl (fun w' hw' => awake_c w' (hg.ext hw'.ext)) ?_
    refine RW.pickB rfl rfl (by rw [textF, if_neg hr]; rfl) rfl ?_
    refine RW.assign rfl rfl ?_
    refine RW.nil (EX.seq (CW.ret (EX.seqR ?_)))
    refine EX.fin1 Tryd.results5 rfl (fun wz hw => ?_)
    -- mq: done
    exact ⟨rfl, hw.ext⟩
  · skip
    have hr : rightF a = true := by simpa using h0
    refine CW.skip (EX.seq (CW.seq ?_))
    -- mq: region
    refine CW.drawU [0, 2] 3 [[(1, false, []), (3, false, [4, 5]), (6, false, [7, 8])]] (SH w [] [blk g1 [.int .i64 a.fk, .int .i64 a.fn, .int .i64 a.bk, .int .i64 a.bn, .int .i64 a.fl] 25]) mixed (by kernel_rfl) (fun _ hw => hw.drew) (fun _ h => (by first | trivial | exact h | exact h.ch | exact (h.rem Rem.head).ch | exact ((h.rem Rem.head).rem Rem.head).ch | exact (((h.rem Rem.head).rem Rem.head).rem Rem.head).ch)) ?_
    refine QuP.cons rfl (fun wq hq => (RW.loadA ag25 rfl rfl rfl (fun w1 e1 j u hj => by subst e1; exact hq.blk_at (sz := 5) (by first | exact Has.head | exact Has.tail Has.head | exact Has.tail (Has.tail Has.head) | exact Has.tail (Has.tail (Has.tail Has.head)) | exact Has.tail (Has.tail (Has.tail (Has.tail Has.head))) | exact Has.tail (Has.tail (Has.tail (Has.tail (Has.tail Has.head)))) | exact Has.tail (Has.tail (Has.tail (Has.tail (Has.tail (Has.tail Has.head)))))) rfl j u hj) RW.jn)) ?_
    refine QuP.cons rfl (fun wq hq => (RW.loadA ag25 rfl rfl rfl (fun w1 e1 j u hj => by subst e1; exact hq.blk_at (sz := 5) (by first | exact Has.head | exact Has.tail Has.head | exact Has.tail (Has.tail Has.head) | exact Has.tail (Has.tail (Has.tail Has.head)) | exact Has.tail (Has.tail (Has.tail (Has.tail Has.head))) | exact Has.tail (Has.tail (Has.tail (Has.tail (Has.tail Has.head)))) | exact Has.tail (Has.tail (Has.tail (Has.tail (Has.tail (Has.tail Has.head)))))) rfl j u hj) RW.jn)) ?_
    refine QuP.nil ?_
    refine UW.step [_] rfl (List.forall_mem_cons.2 ⟨?_, by simp⟩)
    refine RW.call rfl ca15 rfl (fun w' hw' => text_c w' (hg.ext hw'.ext) a h64) ?_
    refine RW.st (fun _ => True) (fun _ h => .inr (by first | trivial | exact h | exact h.ch | exact (h.rem Rem.head).ch | exact ((h.rem Rem.head).rem Rem.head).ch | exact (((h.rem Rem.head).rem Rem.head).rem Rem.head).ch)) (fun _ h => trivial) ?_
    refine QuP.nil ?_
    refine UW.step [_] rfl (List.forall_mem_cons.2 ⟨?_, by simp⟩)
    refine RW.call rfl ca16 rfl (fun w' hw' => refTextA_c w' a hr) ?_
    refine RW.st (fun _ => True) (fun _ h => .inr ⟨.inr (by first | trivial | exact h | exact h.ch | exact (h.rem Rem.head).ch | exact ((h.rem Rem.head).rem Rem.head).ch | exact (((h.rem Rem.head).rem Rem.head).rem Rem.head).ch), trivial⟩) (fun _ h => trivial) ?_
    refine QuP.cons rfl (fun wq hq => (RW.eqlS rfl rfl rfl RW.jn)) ?_
    refine QuP.cons rfl (fun wq hq => (RW.move rfl rfl RW.jn)) ?_
    refine QuP.nil ?_
    refine UW.step [_] rfl (List.forall_mem_cons.2 ⟨?_, by simp⟩)
    refine RW.guardT rfl rfl ((decide_eq_true rfl)) ?_
    refine RW.call rfl ca10 rfl (fun w' hw' => awake_c w' (hg.ext hw'.ext)) ?_
    refine RW.st (fun _ => True) (fun _ h => .inr ⟨.inr ⟨.inr (by first | trivial | exact h | exact h.ch | exact (h.rem Rem.head).ch | exact ((h.rem Rem.head).rem Rem.head).ch | exact (((h.rem Rem.head).rem Rem.head).rem Rem.head).ch), trivial⟩, trivial⟩) (fun _ h => trivial) ?_
    refine QuP.cons rfl (fun wq hq => (RW.pickB rfl rfl (decide_eq_true rfl) rfl RW.jn)) ?_
    refine QuP.cons rfl (fun wq hq => (RW.assign rfl rfl RW.jn)) ?_
    refine QuP.nil ?_
    refine UW.nil (EX.seq (CW.ret ?_))
    refine EX.fin1 Tryd.results5 rfl (fun wz hw => ?_)
    -- mq: done
    exact ⟨rfl, hw.ext⟩
end Go.Proofs.YtojfodeienchfaaDoor.Mq
