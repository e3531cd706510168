/- walks: with, Mend, Used of cells; Mend, Used, Same of the reference -/
import Derived.Test.YtmdmdlfdijdhgaaCells
namespace Go.Proofs.Ytmdmdlfdijdhgaa.Mq
open Go Go.RowKit Go.Proofs

theorem mendNop_c (w : World) (v : Value) : Calls Try.prog 41 [v].toArray w (fun e w' => e = .returned (.tuple #[]) ∧ Ext [] w w') := by
  refine calls (n := 2) Try.func41 rfl Try.ntmps41 rfl ?_
  refine CW.sub (H' := SH w [] []) ?_ (Sub.refl _) (fun x hx => SH.start' _ _ hx)
  refine CW.skip ?_
  refine EX.fin0N Try.results41 (fun wz hw => ?_)
  -- mq: done
  exact ⟨rfl, hw.ext⟩
theorem with_c (w : World) (F : Nat → Prop) (A : Option Addr) (n c : Nat) (row : List CellV) (hr : Rd ECell w F A n c row) (hn : n ≤ 1000000) :
    Calls Try.prog 40 [.slice A n c, .func (.func 41) #[] #[]].toArray w (RetSl ECell w (mendL row)) := by
  have hl := hr.len
  refine calls (n := 16) Try.func40 rfl Try.ntmps40 rfl ?_
  refine CW.sub (H' := SH w [] []) ?_ (Sub.refl _) (fun x hx => SH.start' _ _ hx)
  refine CW.ownNil 34 8 ?_
  refine CW.seq (CW.region ?_)
  refine RW.assign rfl rfl ?_
  refine RW.nil (EX.seq (CW.seq (CW.region ?_)))
  refine RW.move rfl rfl ?_
  refine RW.appendSl (E := ECell) sl22 rfl rfl rfl (fun _ => by first | exact Upd.head | exact Upd.tail Upd.head | exact Upd.tail (Upd.tail Upd.head) | exact Upd.tail (Upd.tail (Upd.tail Upd.head)) | exact Upd.tail (Upd.tail (Upd.tail (Upd.tail Upd.head))) | exact Upd.tail (Upd.tail (Upd.tail (Upd.tail (Upd.tail Upd.head)))) | exact Upd.tail (Upd.tail (Upd.tail (Upd.tail (Upd.tail (Upd.tail Upd.head)))))) (fun w' hw' => hr.ext hw'.ext (by simp)) (by simp only [maxLen]; omega) (by omega) (fun v7 hv7 => ?_)
  refine RW.assign rfl rfl ?_
  refine RW.nil (EX.seq (CW.seq (CW.region ?_)))
  refine RW.move rfl rfl ?_
  -- mq: op 1: ('Op.call', ('Call.mk', ('Callee.value', ('Operand.func', '46')), ('arr', ('Operand.tmp', '8')), ('arr', '22'))) -> slot 9 ("cells.go:50")
  refine RW.callU (v := .tuple #[]) (c' := own 34 8 v7 (0 + n) (ECell.all (mendL row))) rfl ca46 rfl (by first | exact Upd.head | exact Upd.tail Upd.head | exact Upd.tail (Upd.tail Upd.head) | exact Upd.tail (Upd.tail (Upd.tail Upd.head)) | exact Upd.tail (Upd.tail (Upd.tail (Upd.tail Upd.head))) | exact Upd.tail (Upd.tail (Upd.tail (Upd.tail (Upd.tail Upd.head)))) | exact Upd.tail (Upd.tail (Upd.tail (Upd.tail (Upd.tail (Upd.tail Upd.head)))))) (by rfl) (fun w' hw' => (mend_c w' v7 row (by have := hw'.has Has.head; rw [Nat.zero_add] at this; rw [hl]; exact this) (by omega)).mono ?_) ?_
  · rintro e w1 ⟨h1, h2, h3⟩
    exact ⟨h1, h2, by rw [Nat.zero_add]; rw [hl] at h3; exact h3⟩
  refine RW.nil (EX.seq (CW.seq (CW.region ?_)))
  refine RW.move rfl rfl ?_
  refine RW.move rfl rfl ?_
  -- mq: op 2: ('Op.call', ('Call.mk', ('Callee.value', ('Operand.tmp', '10')), ('arr', ('Operand.tmp', '11')), ('arr', '22'))) -> slot 12 ("cells.go:51")
  refine RW.callV rfl rfl ca41 rfl (fun w' _ => mendNop_c w' _) ?_
  refine RW.nil (EX.seq (CW.seq (CW.region ?_)))
  refine RW.move rfl rfl ?_
  -- mq: op 1: ('Op.call', ('Call.mk', ('Callee.value', ('Operand.func', '46')), ('arr', ('Operand.tmp', '13')), ('arr', '22'))) -> slot 14 ("cells.go:52")
  refine RW.callU (v := .tuple #[]) (c' := own 34 8 v7 (0 + n) (ECell.all (mendL row))) rfl ca46 rfl (by first | exact Upd.head | exact Upd.tail Upd.head | exact Upd.tail (Upd.tail Upd.head) | exact Upd.tail (Upd.tail (Upd.tail Upd.head)) | exact Upd.tail (Upd.tail (Upd.tail (Upd.tail Upd.head))) | exact Upd.tail (Upd.tail (Upd.tail (Upd.tail (Upd.tail Upd.head)))) | exact Upd.tail (Upd.tail (Upd.tail (Upd.tail (Upd.tail (Upd.tail Upd.head)))))) (by rfl) (fun w' hw' => (mend_c w' v7 (mendL row) (by have := hw'.has Has.head; rw [Nat.zero_add] at this; rw [mendL_length, hl]; exact this) (by rw [mendL_length]; omega)).mono ?_) ?_
  · rintro e w1 ⟨h1, h2, h3⟩
    exact ⟨h1, h2, by rw [Nat.zero_add]; rw [mendL_length, hl, mendL_cons_mend] at h3; exact h3⟩
  refine RW.nil (EX.seq (CW.seq (CW.region ?_)))
  refine RW.move rfl rfl ?_
  refine RW.assign rfl rfl ?_
  refine RW.nil (EX.seq (CW.ret ?_))
  refine EX.fin1 Try.results40 rfl (fun wz hw => ?_)
  -- mq: done
  exact RetSl.of_own hw.ext (hw.has Has.head) (by rw [mendL_length, hl, Nat.zero_add]) (fun g hg => by
    rcases hv7 g hg with h | h
    · simp [Value.ownBlock] at h
    · exact h.1)
theorem Mend_c (w : World) (F : Nat → Prop) (A : Option Addr) (n c : Nat) (row : List CellV) (hr : Rd ECell w F A n c row) (hn : n ≤ 1000000) :
    Calls Try.prog 33 [.slice A n c].toArray w (RetSl ECell w (mendL row)) := by
  refine calls (n := 5) Try.func33 rfl Try.ntmps33 rfl ?_
  refine CW.sub (H' := SH w [] []) ?_ (Sub.refl _) (fun x hx => SH.start' _ _ hx)
  refine CW.seq (CW.region ?_)
  refine RW.assign rfl rfl ?_
  refine RW.nil (EX.seq (CW.seq (CW.region ?_)))
  refine RW.move rfl rfl ?_
  -- mq: op 1: ('Op.call', ('Call.mk', ('Callee.value', ('Operand.func', '40')), ('arr', ('Operand.tmp', '3'), ('Operand.func', '41')), ('arr', '22', '69'))) -> slot 4 ("cells.go:57")
  refine RW.callN (fun w0 v w1 => RetSl ECell w0 (mendL row) (.returned v) w1) rfl ca40 rfl (fun w' hw' => (with_c w' F A n c row (hr.ext hw'.ext (by simp)) hn).mono ?_) ?_
  · rintro e w1 ⟨A1, n1, c1, rfl, h2, h3⟩
    exact ⟨_, rfl, h2, A1, n1, c1, rfl, h2, h3⟩
  rintro w0 v w1 hw0 he1 ⟨A1, n1, c1, hv, _, h3⟩ hext _
  cases hv
  refine RW.assign rfl rfl ?_
  refine RW.nil (EX.seq (CW.ret ?_))
  refine EX.fin1 Try.results33 rfl (fun wz hw => ?_)
  -- mq: done
  exact ⟨A1, n1, c1, rfl, hext.trans0 hw.ext, (h3.ext0 hw.ext).weak (fun k hk => Nat.le_trans hw0.ext.size hk)⟩
end Go.Proofs.Ytmdmdlfdijdhgaa.Mq
