/- walk of FlowPlaces -/
import Derived.Test.YtmdmdlfdijdhgaaPlace3
import Derived.Test.YtmdmdlfdijdhgaaAwake
namespace Go.Proofs.Ytmdmdlfdijdhgaa.Mq
open Go Go.RowKit Go.Proofs

theorem places_c (w : World) (F : Nat → Prop) (A : Option Addr) (n c : Nat) (rows : List RowL) (hr : RdRows w F A n c rows) (hn0 : n ≤ 140737488351232) (hm0 : ∀ row ∈ rows, row.1.length ≤ 140737488351232) (p : PosV) (off : Int) (ho : -9223372036854775808 ≤ off ∧ off ≤ 9223372036854775807) :
    Calls Try.prog 6 [.slice A n c, .agg p.enc.toArray, .int .i64 off].toArray w (fun e w' => e = .returned (.bool true) ∧ Ext [] w w') := by
  have hl := hr.len
  refine calls (n := 30) Try.func6 rfl Try.ntmps6 rfl ?_
  refine CW.sub (H' := SH w [] []) ?_ (Sub.refl _) (fun x hx => SH.start' _ _ hx)
  refine CW.seq (CW.region ?_)
  refine RW.boxA rfl rfl (fun g4 hg4 hf4 => ?_)
  refine RW.assign rfl rfl ?_
  refine RW.nil (EX.seq (CW.seq (CW.seq (CW.region ?_))))
  refine RW.move rfl rfl ?_
  -- mq: op 1: ('Op.call', ('Call.mk', ('Callee.value', ('Operand.func', '19')), ('arr', ('Operand.tmp', '7')), ('arr', '24'))) -> slot 8 ("law.go:65")
  refine RW.call rfl ca19 rfl (fun w' hw' => Great_c w' _ A n c rows (hr.ext hw'.ext (by simp)) hn0 hm0) ?_
  refine RW.move rfl rfl ?_
  -- mq: guard slot 9
  refine RW.casesB 9 rfl (fun h1 => ?_) (fun h1 => ?_)
  · skip
    refine RW.guardF rfl rfl rfl h1 ?_
    refine RW.guardF rfl rfl rfl h1 ?_
    refine RW.pickB rfl rfl h1 rfl ?_
    refine RW.nil (EX.seq ?_)
    -- mq: cond
    refine CW.condT rfl (rfl) ?_
    refine CW.seq (CW.region ?_)
    refine RW.call rfl ca10 rfl (fun w' _ => awake_c w') ?_
    refine RW.assign rfl rfl ?_
    refine RW.nil (EX.seq (CW.ret (EX.seqR ?_)))
    refine EX.fin1 Try.results6 rfl (fun wz hw => ?_)
    -- mq: done
    exact ⟨rfl, hw.ext⟩
  · skip
    refine RW.guardT rfl rfl h1 ?_
    -- mq: op 3: ('Op.call', ('Call.mk', ('Callee.value', ('Operand.func', '10')), ('arr',), ('arr',))) -> slot 10 ("law.go:65")
    refine RW.call rfl ca10 rfl (fun w' _ => awake_c w') ?_
    refine RW.guardT rfl rfl h1 ?_
    refine RW.not_ rfl rfl ?_
    refine RW.pickC rfl rfl h1 rfl ?_
    refine RW.nil (EX.seq ?_)
    -- mq: cond
    refine CW.condF rfl (rfl) ?_
    have hsz : n + sumLen rows ≤ 600 := by simpa using h1
    refine CW.skip (EX.seq (CW.seq ?_))
    -- mq: region
    refine CW.drawq mixed (by kernel_rfl) (fun _ hw => hw.drew) ?_
    refine DRq.cons rfl (RW.move rfl rfl RW.jn) ?_
    refine DRq.cons rfl (RW.loadBA ag47 rfl rfl (by first | exact Has.head | exact Has.tail Has.head | exact Has.tail (Has.tail Has.head) | exact Has.tail (Has.tail (Has.tail Has.head)) | exact Has.tail (Has.tail (Has.tail (Has.tail Has.head))) | exact Has.tail (Has.tail (Has.tail (Has.tail (Has.tail Has.head)))) | exact Has.tail (Has.tail (Has.tail (Has.tail (Has.tail (Has.tail Has.head)))))) rfl rfl RW.jn) ?_
    refine DRq.cons rfl (RW.call rfl ca23 rfl (fun w' hw' => Offset_c w' F A n c rows (hr.ext hw'.ext (by simp)) p (by omega) (by omega)) RW.jn) ?_
    refine DRq.cons rfl (RW.move rfl rfl RW.jn) ?_
    refine DRq.cons rfl (RW.loadBA ag47 rfl rfl (by first | exact Has.head | exact Has.tail Has.head | exact Has.tail (Has.tail Has.head) | exact Has.tail (Has.tail (Has.tail Has.head)) | exact Has.tail (Has.tail (Has.tail (Has.tail Has.head))) | exact Has.tail (Has.tail (Has.tail (Has.tail (Has.tail Has.head)))) | exact Has.tail (Has.tail (Has.tail (Has.tail (Has.tail (Has.tail Has.head)))))) rfl rfl RW.jn) ?_
    refine DRq.cons rfl (RW.call rfl ca24 rfl (fun w' hw' => refOffset_c w' F A n c rows (hr.ext hw'.ext (by simp)) p.row p.col (by omega) (by omega)) RW.jn) ?_
    refine DRq.cons rfl (RW.eqlI rfl rfl rfl RW.jn) ?_
    refine DRq.cons rfl (RW.move rfl rfl RW.jn) ?_
    refine DRq.cons rfl (RW.guardT rfl rfl (by simp) (RW.move rfl rfl RW.jn)) ?_
    refine DRq.cons rfl (RW.guardT rfl rfl (by simp) (RW.move rfl rfl RW.jn)) ?_
    refine DRq.cons rfl (RW.guardT rfl rfl (by simp) (RW.call rfl ca25 rfl (fun w' hw' => Place_c w' F A n c rows (hr.ext hw'.ext (by simp)) off ho (by omega) (by omega)) RW.jn)) ?_
    refine DRq.cons rfl (RW.guardT rfl rfl (by simp) (RW.move rfl rfl RW.jn)) ?_
    refine DRq.cons rfl (RW.guardT rfl rfl (by simp) (RW.move rfl rfl RW.jn)) ?_
    refine DRq.cons rfl (RW.guardT rfl rfl (by simp) (RW.call rfl ca26 rfl (fun w' hw' => refPlace_c w' F A n c rows (hr.ext hw'.ext (by simp)) off ho (by omega) (by omega)) RW.jn)) ?_
    refine DRq.cons rfl (RW.guardT rfl rfl (by simp) (RW.eqlSt eq47 rfl rfl rfl (by kernel_rfl) (eqv_pos _ _) RW.jn)) ?_
    refine DRq.cons rfl (RW.pickB rfl rfl (by simp) rfl RW.jn) ?_
    refine DRq.cons rfl (RW.assign rfl rfl RW.jn) ?_
    refine DRq.nil (EX.seq (CW.ret ?_))
    refine EX.fin1 Try.results6 rfl (fun wz hw => ?_)
    -- mq: done
    exact ⟨by simp, hw.ext⟩
end Go.Proofs.Ytmdmdlfdijdhgaa.Mq
