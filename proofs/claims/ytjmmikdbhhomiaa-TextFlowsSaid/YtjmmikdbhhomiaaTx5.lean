/- text: the document's decoder: Is, Begins, One, All -/
import Derived.Test.YtjmmikdbhhomiaaTx4
namespace Go.Proofs.Ytjmmikdbhhomiaa.Mq
open Go Go.RowKit Go.Proofs

theorem is_c (w : World) (F : Nat → Prop) (A : Option Addr) (n c : Nat) (b : List UInt8) (hr : Rd EU8 w F A n c b) :
    Calls Try.prog 52 [.slice A n c].toArray w (RetA (fun v _ => IsBool v) w) := by
  refine calls (n := 16) Try.func52 rfl Try.ntmps52 rfl ?_
  refine CW.sub (H' := SH w [] []) ?_ (Sub.refl _) (fun x hx => SH.start' _ _ hx)
  refine CW.seq (CW.region ?_)
  refine RW.assign rfl rfl ?_
  refine RW.nil (EX.seq (CW.seq ?_))
  -- mq: region
  refine CW.region ?_
  refine RW.move rfl rfl ?_
  -- mq: at
  refine RW.callA (R := fun _ v _ => IsI32 v) rfl ca53 rfl (fun w' hw' => number_c w' F A n c b (hr.ext hw'.ext (by simp))) (fun w1 w2 v hw1 he12 hw2 hlt2 hv => ?_)
  obtain ⟨r, rfl⟩ := hv
  have hx12 : Ext [] w w2 := hw1.ext.trans0 he12
  refine RW.assign rfl rfl ?_
  refine RW.nil (EX.seq (CW.seq ?_))
  -- mq: region
  have hR : ∀ w', Ext [] w w' → Rd EU8 w' F A n c b := fun w' h => hr.ext h (by simp)
  by_cases h0 : 0 ≤ r
  · skip
    refine CW.drawU [0, 1, 2, 3, 6, 7] 2 [[(4, false, []), (5, false, [8, 9, 10])]] (fun w' => Rd EU8 w' F A n c b) mixed (by kernel_rfl) (fun _ hw => hw.drew) (fun _ h => (by first | exact hR _ (hx12.trans0 h.ext) | exact hR _ (hx14.trans0 h.ext))) ?_
    refine QuP.cons rfl (fun wq hq => (RW.move rfl rfl RW.jn)) ?_
    refine QuP.cons rfl (fun wq hq => (RW.geq rfl rfl rfl RW.jn)) ?_
    refine QuP.cons rfl (fun wq hq => (RW.move rfl rfl RW.jn)) ?_
    refine QuP.cons rfl (fun wq hq => RW.guardT rfl rfl ((decide_eq_true h0)) (RW.move rfl rfl RW.jn)) ?_
    refine QuP.cons rfl (fun wq hq => RW.guardT rfl rfl ((decide_eq_true h0)) (RW.move rfl rfl RW.jn)) ?_
    refine QuP.cons rfl (fun wq hq => RW.guardT rfl rfl ((decide_eq_true h0)) (RW.bytesStr (s := b) (F := F) Try.underlying59 Try.underlying5 Try.underlying9 rfl rfl (fun w' e => by subst e; exact hq) RW.jn)) ?_
    refine QuP.nil ?_
    refine UW.step [_] rfl (List.forall_mem_cons.2 ⟨?_, by simp⟩)
    refine RW.guardT rfl rfl ((decide_eq_true h0)) ?_
    -- mq: op 4: ('Op.call', ('Call.mk', ('Callee.value', ('Operand.func', '30')), ('arr', ('Operand.tmp', '9')), ('arr', '21'))) -> slot 10 ("ref.go:56")
    refine RW.callA (R := fun w0 => IsByt w0) rfl ca30 rfl (fun w' _ => put01_c w' r) (fun w3 w4 v hw3 he34 hw4 hlt4 hv => ?_)
    obtain ⟨A5, n5, c5, l5, rfl, hn5, hrd5⟩ := hv
    have hx14 : Ext [] w w4 := (hx12.trans0 hw3.ext).trans0 he34
    refine RW.st (fun _ => True) (fun _ h => .inr (by first | exact hR _ (hx12.trans0 h.ext) | exact hR _ (hx14.trans0 h.ext))) (fun _ h => trivial) ?_
    refine QuP.nil ?_
    refine UW.step [_] rfl (List.forall_mem_cons.2 ⟨?_, by simp⟩)
    refine RW.guardT rfl rfl ((decide_eq_true h0)) ?_
    -- mq: op 5: ('Op.convert', '59', '9', ('Operand.tmp', '10')) -> slot 11 ("ref.go:56")
    refine RW.bytesStr (s := l5) (F := fun k => w3.heap.size ≤ k) Try.underlying59 Try.underlying5 Try.underlying9 rfl rfl (fun w' hw' => hrd5.ext hw'.ext (by intro k _ hk2; cases hk2)) ?_
    refine RW.st (fun _ => True) (fun _ h => .inr ⟨.inr (by first | exact hR _ (hx12.trans0 h.ext) | exact hR _ (hx14.trans0 h.ext)), trivial⟩) (fun _ h => trivial) ?_
    refine QuP.cons rfl (fun wq hq => RW.guardT rfl rfl ((decide_eq_true h0)) (RW.eqlS rfl rfl rfl RW.jn)) ?_
    refine QuP.cons rfl (fun wq hq => (RW.pickB rfl rfl (decide_eq_true h0) rfl RW.jn)) ?_
    refine QuP.cons rfl (fun wq hq => (RW.assign rfl rfl RW.jn)) ?_
    refine QuP.nil ?_
    refine UW.nil (EX.seq (CW.ret ?_))
    refine EX.fin1 Try.results52 rfl (fun wz hw => ?_)
    -- mq: done
    exact ⟨_, rfl, hx14.trans0 hw.ext, _, rfl⟩
  · skip
    refine CW.drawU [0, 1, 2, 3, 6, 7] 1 [[(4, false, [5, 8, 9, 10])]] (fun _ => True) mixed (by kernel_rfl) (fun _ hw => hw.drew) (fun _ h => (by first | trivial | exact h | exact h.ch | exact (h.rem Rem.head).ch | exact ((h.rem Rem.head).rem Rem.head).ch | exact (((h.rem Rem.head).rem Rem.head).rem Rem.head).ch)) ?_
    refine QuP.cons rfl (fun wq hq => (RW.move rfl rfl RW.jn)) ?_
    refine QuP.cons rfl (fun wq hq => (RW.geq rfl rfl rfl RW.jn)) ?_
    refine QuP.cons rfl (fun wq hq => (RW.move rfl rfl RW.jn)) ?_
    refine QuP.cons rfl (fun wq hq => RW.guardF rfl rfl rfl ((decide_eq_false h0)) RW.jn) ?_
    refine QuP.cons rfl (fun wq hq => RW.guardF rfl rfl rfl ((decide_eq_false h0)) RW.jn) ?_
    refine QuP.cons rfl (fun wq hq => RW.guardF rfl rfl rfl ((decide_eq_false h0)) RW.jn) ?_
    refine QuP.nil ?_
    refine UW.step [_] rfl (List.forall_mem_cons.2 ⟨?_, by simp⟩)
    refine RW.guardF rfl rfl rfl ((decide_eq_false h0)) ?_
    refine RW.st (fun _ => True) (fun _ h => .inr (by first | trivial | exact h | exact h.ch | exact (h.rem Rem.head).ch | exact ((h.rem Rem.head).rem Rem.head).ch | exact (((h.rem Rem.head).rem Rem.head).rem Rem.head).ch)) (fun _ h => trivial) ?_
    refine QuP.cons rfl (fun wq hq => RW.guardF rfl rfl rfl ((decide_eq_false h0)) RW.jn) ?_
    refine QuP.cons rfl (fun wq hq => RW.guardF rfl rfl rfl ((decide_eq_false h0)) RW.jn) ?_
    refine QuP.cons rfl (fun wq hq => (RW.pickC rfl rfl (decide_eq_false h0) rfl RW.jn)) ?_
    refine QuP.cons rfl (fun wq hq => (RW.assign rfl rfl RW.jn)) ?_
    refine QuP.nil ?_
    refine UW.nil (EX.seq (CW.ret ?_))
    refine EX.fin1 Try.results52 rfl (fun wz hw => ?_)
    -- mq: done
    exact ⟨_, rfl, hx12.trans0 hw.ext, _, rfl⟩
end Go.Proofs.Ytjmmikdbhhomiaa.Mq
