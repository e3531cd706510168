/- dump: walks of told, Told (printed by gend2.py) -/
import Derived.Test.YtnkdabjahmjdoaaDoorD1
import Derived.Test.YtnkdabjahmjdoaaDoorVals
namespace Go.Proofs.YtnkdabjahmjdoaaDoor.Mq
open Go Go.RowKit Go.Proofs

theorem nb_f {c : Bool} (h : (!c) = true) : c = false := by cases c <;> first | rfl | cases h
theorem nb_t {c : Bool} (h : (!c) = false) : c = true := by cases c <;> first | rfl | cases h
def accT (b : BlkV) (k : Nat) : Bool := decide (0 ≤ b.ph ∧ b.ph ≤ 4) && (b.pos.take k).all rightP
theorem accT_succ {b : BlkV} {k : Nat} {p : Int × Int} (h : b.pos[k]? = some p) : accT b (k + 1) = (accT b k && rightP p) := by
  unfold accT
  rw [List.take_add_one, h, Option.toList_some, List.all_append, ← Bool.and_assoc]
  simp
theorem accT_t {b : BlkV} {k : Nat} {p : Int × Int} (h : b.pos[k]? = some p) (ha : accT b k = true) : accT b (k + 1) = rightP p := by rw [accT_succ h, ha, Bool.true_and]
theorem accT_f {b : BlkV} {k : Nat} {p : Int × Int} (h : b.pos[k]? = some p) (ha : accT b k = false) : accT b (k + 1) = false := by rw [accT_succ h, ha, Bool.false_and]
theorem toldB_acc (b : BlkV) : toldB b = (accT b 5 && decide (b.dir.length ≤ 256) && decide (b.line.length ≤ 256) && (b.has || decide (b.code = 0))) := rfl
theorem told_c (w : World) (b : BlkV) : Calls Tryd.prog 27 [.agg b.cells.toArray].toArray w (fun e w' => e = .returned (.bool (toldB b)) ∧ Ext [] w w') := by
  refine calls (n := 47) Tryd.func27 rfl Tryd.ntmps27 rfl ?_
  refine CW.sub (H' := SH w [] []) ?_ (Sub.refl _) (fun x hx => SH.start' _ _ hx)
  refine CW.seq (CW.region ?_)
  refine RW.boxA rfl rfl (fun g1 hg1 hf1 => ?_)
  refine RW.assign rfl rfl ?_
  refine RW.nil (EX.seq (CW.seq ?_))
  -- mq: region
  refine CW.region ?_
  refine RW.fieldB fl26x1 rfl rfl ?_
  refine RW.loadB1 sc3 rfl rfl (by first | exact Has.head | exact Has.tail Has.head | exact Has.tail (Has.tail Has.head) | exact Has.tail (Has.tail (Has.tail Has.head)) | exact Has.tail (Has.tail (Has.tail (Has.tail Has.head))) | exact Has.tail (Has.tail (Has.tail (Has.tail (Has.tail Has.head)))) | exact Has.tail (Has.tail (Has.tail (Has.tail (Has.tail (Has.tail Has.head)))))) rfl ?_
  refine RW.call rfl ca11 rfl (fun w' _ => phase_c w' b.ph) ?_
  refine RW.move rfl rfl ?_
  refine RW.extract rfl rfl rfl ?_
  refine RW.extract rfl rfl rfl ?_
  refine RW.assign rfl rfl ?_
  refine RW.assign rfl rfl ?_
  refine RW.nil (EX.seq (CW.seq (CW.seq ?_)))
  -- mq: region
  refine CW.region ?_
  refine RW.call rfl ca28 rfl (fun w' _ => places_c w' g1) ?_
  refine RW.move rfl rfl ?_
  refine RW.nil (EX.seq (CW.block ?_))
  -- mq: loop
  refine CW.loop (ι := Nat) (fun k => [(1, .pointer (some ⟨g1, 0, none⟩)), (4, .bool (accT b k)), (13, .agg (ptrs g1).toArray), (14, .int .i64 (k : Int))]) (fun _ => SH w [] [blk g1 b.cells 26]) (fun k => k ≤ 5) (fun k => 5 - k) ?_ ?_
  · refine fun w' hw' => ⟨0, Nat.zero_le _, ?_, hw'⟩
    rw [show accT b 0 = decide (0 ≤ b.ph ∧ b.ph ≤ 4) by simp [accT]]
    exact (by repeat (first | exact Sub.nil | refine Sub.cons (by rfl) ?_))
  · intro k hk
    refine CW.seq (CW.region ?_)
    refine RW.lss rfl rfl rfl ?_
    refine RW.nil (EX.seq (CW.seq ?_))
    -- mq: cond
    first | refine CW.condD rfl (fun hlt => ?_) (fun hlt => ?_) | refine CW.cond rfl (fun hlt => ?_) (fun hlt => ?_)
    · skip
      rcases (show k = 0 ∨ k = 1 ∨ k = 2 ∨ k = 3 ∨ k = 4 by omega) with rfl | rfl | rfl | rfl | rfl
      · skip
        refine CW.skip (EX.seq (CW.seq (CW.block (CW.seq (CW.region ?_)))))
        refine RW.ixValS (q := 0) Tryd.underlying56 sc55 rfl rfl rfl (by omega) (by omega) rfl ?_
        -- mq: at
        refine RW.assign rfl rfl ?_
        refine RW.nil (EX.seq (CW.region ?_))
        refine RW.move rfl rfl ?_
        refine RW.move rfl rfl ?_
        -- mq: guard slot 18
        refine RW.casesB 18 rfl (fun hA => ?_) (fun hA => ?_)
        · skip
          refine RW.guardT rfl rfl hA ?_
          refine RW.move rfl rfl ?_
          refine RW.guardT rfl rfl hA ?_
          refine RW.nilChk rfl rfl ?_
          refine RW.guardT rfl rfl hA ?_
          refine RW.loadBA ag24 rfl rfl (by first | exact Has.head | exact Has.tail Has.head | exact Has.tail (Has.tail Has.head) | exact Has.tail (Has.tail (Has.tail Has.head)) | exact Has.tail (Has.tail (Has.tail (Has.tail Has.head))) | exact Has.tail (Has.tail (Has.tail (Has.tail (Has.tail Has.head)))) | exact Has.tail (Has.tail (Has.tail (Has.tail (Has.tail (Has.tail Has.head)))))) rfl rfl ?_
          refine RW.guardT rfl rfl hA ?_
          refine RW.call rfl ca53 rfl (fun w' _ => right_c w' b.r1 b.c1) ?_
          refine RW.pickB rfl rfl hA rfl ?_
          refine RW.assign rfl rfl ?_
          refine RW.nil (EX.bkN (EX.seq (CW.region ?_)))
          refine RW.add rfl rfl rfl (wrap64 (by omega) (by omega)) ?_
          refine RW.move rfl rfl ?_
          refine RW.nil ?_
          -- mq: loopend
          exact EX.lpN 1 (by omega) (by omega) (by rw [accT_t (p := (b.r1, b.c1)) rfl hA]; exact (by repeat (first | exact Sub.nil | refine Sub.cons (by rfl) ?_))) (fun w' hw' => hw')
        · skip
          refine RW.guardF rfl rfl rfl hA ?_
          refine RW.guardF rfl rfl rfl hA ?_
          refine RW.guardF rfl rfl rfl hA ?_
          refine RW.guardF rfl rfl rfl hA ?_
          refine RW.pickC rfl rfl hA rfl ?_
          refine RW.assign rfl rfl ?_
          refine RW.nil (EX.bkN (EX.seq (CW.region ?_)))
          refine RW.add rfl rfl rfl (wrap64 (by omega) (by omega)) ?_
          refine RW.move rfl rfl ?_
          refine RW.nil ?_
          -- mq: loopend
          exact EX.lpN 1 (by omega) (by omega) (by rw [accT_f (p := (b.r1, b.c1)) rfl hA]; exact (by repeat (first | exact Sub.nil | refine Sub.cons (by rfl) ?_))) (fun w' hw' => hw')
      · skip
        refine CW.skip (EX.seq (CW.seq (CW.block (CW.seq (CW.region ?_)))))
        refine RW.ixValS (q := 1) Tryd.underlying56 sc55 rfl rfl rfl (by omega) (by omega) rfl ?_
        -- mq: at
        refine RW.assign rfl rfl ?_
        refine RW.nil (EX.seq (CW.region ?_))
        refine RW.move rfl rfl ?_
        refine RW.move rfl rfl ?_
        -- mq: guard slot 18
        refine RW.casesB 18 rfl (fun hA => ?_) (fun hA => ?_)
        · skip
          refine RW.guardT rfl rfl hA ?_
          refine RW.move rfl rfl ?_
          refine RW.guardT rfl rfl hA ?_
          refine RW.nilChk rfl rfl ?_
          refine RW.guardT rfl rfl hA ?_
          refine RW.loadBA ag24 rfl rfl (by first | exact Has.head | exact Has.tail Has.head | exact Has.tail (Has.tail Has.head) | exact Has.tail (Has.tail (Has.tail Has.head)) | exact Has.tail (Has.tail (Has.tail (Has.tail Has.head))) | exact Has.tail (Has.tail (Has.tail (Has.tail (Has.tail Has.head)))) | exact Has.tail (Has.tail (Has.tail (Has.tail (Has.tail (Has.tail Has.head)))))) rfl rfl ?_
          refine RW.guardT rfl rfl hA ?_
          refine RW.call rfl ca53 rfl (fun w' _ => right_c w' b.r2 b.c2) ?_
          refine RW.pickB rfl rfl hA rfl ?_
          refine RW.assign rfl rfl ?_
          refine RW.nil (EX.bkN (EX.seq (CW.region ?_)))
          refine RW.add rfl rfl rfl (wrap64 (by omega) (by omega)) ?_
          refine RW.move rfl rfl ?_
          refine RW.nil ?_
          -- mq: loopend
          exact EX.lpN 2 (by omega) (by omega) (by rw [accT_t (p := (b.r2, b.c2)) rfl hA]; exact (by repeat (first | exact Sub.nil | refine Sub.cons (by rfl) ?_))) (fun w' hw' => hw')
        · skip
          refine RW.guardF rfl rfl rfl hA ?_
          refine RW.guardF rfl rfl rfl hA ?_
          refine RW.guardF rfl rfl rfl hA ?_
          refine RW.guardF rfl rfl rfl hA ?_
          refine RW.pickC rfl rfl hA rfl ?_
          refine RW.assign rfl rfl ?_
          refine RW.nil (EX.bkN (EX.seq (CW.region ?_)))
          refine RW.add rfl rfl rfl (wrap64 (by omega) (by omega)) ?_
          refine RW.move rfl rfl ?_
          refine RW.nil ?_
          -- mq: loopend
          exact EX.lpN 2 (by omega) (by omega) (by rw [accT_f (p := (b.r2, b.c2)) rfl hA]; exact (by repeat (first | exact Sub.nil | refine Sub.cons (by rfl) ?_))) (fun w' hw' => hw')
      · skip
        refine CW.skip (EX.seq (CW.seq (CW.block (CW.seq (CW.region ?_)))))
        refine RW.ixValS (q := 2) Tryd.underlying56 sc55 rfl rfl rfl (by omega) (by omega) rfl ?_
        -- mq: at
        refine RW.assign rfl rfl ?_
        refine RW.nil (EX.seq (CW.region ?_))
        refine RW.move rfl rfl ?_
        refine RW.move rfl rfl ?_
        -- mq: guard slot 18
        refine RW.casesB 18 rfl (fun hA => ?_) (fun hA => ?_)
        · skip
          refine RW.guardT rfl rfl hA ?_
          refine RW.move rfl rfl ?_
          refine RW.guardT rfl rfl hA ?_
          refine RW.nilChk rfl rfl ?_
          refine RW.guardT rfl rfl hA ?_
          refine RW.loadBA ag24 rfl rfl (by first | exact Has.head | exact Has.tail Has.head | exact Has.tail (Has.tail Has.head) | exact Has.tail (Has.tail (Has.tail Has.head)) | exact Has.tail (Has.tail (Has.tail (Has.tail Has.head))) | exact Has.tail (Has.tail (Has.tail (Has.tail (Has.tail Has.head)))) | exact Has.tail (Has.tail (Has.tail (Has.tail (Has.tail (Has.tail Has.head)))))) rfl rfl ?_
          refine RW.guardT rfl rfl hA ?_
          refine RW.call rfl ca53 rfl (fun w' _ => right_c w' b.r3 b.c3) ?_
          refine RW.pickB rfl rfl hA rfl ?_
          refine RW.assign rfl rfl ?_
          refine RW.nil (EX.bkN (EX.seq (CW.region ?_)))
          refine RW.add rfl rfl rfl (wrap64 (by omega) (by omega)) ?_
          refine RW.move rfl rfl ?_
          refine RW.nil ?_
          -- mq: loopend
          exact EX.lpN 3 (by omega) (by omega) (by rw [accT_t (p := (b.r3, b.c3)) rfl hA]; exact (by repeat (first | exact Sub.nil | refine Sub.cons (by rfl) ?_))) (fun w' hw' => hw')
        · skip
          refine RW.guardF rfl rfl rfl hA ?_
          refine RW.guardF rfl rfl rfl hA ?_
          refine RW.guardF rfl rfl rfl hA ?_
          refine RW.guardF rfl rfl rfl hA ?_
          refine RW.pickC rfl rfl hA rfl ?_
          refine RW.assign rfl rfl ?_
          refine RW.nil (EX.bkN (EX.seq (CW.region ?_)))
          refine RW.add rfl rfl rfl (wrap64 (by omega) (by omega)) ?_
          refine RW.move rfl rfl ?_
          refine RW.nil ?_
          -- mq: loopend
          exact EX.lpN 3 (by omega) (by omega) (by rw [accT_f (p := (b.r3, b.c3)) rfl hA]; exact (by repeat (first | exact Sub.nil | refine Sub.cons (by rfl) ?_))) (fun w' hw' => hw')
      · skip
        refine CW.skip (EX.seq (CW.seq (CW.block (CW.seq (CW.region ?_)))))
        refine RW.ixValS (q := 3) Tryd.underlying56 sc55 rfl rfl rfl (by omega) (by omega) rfl ?_
        -- mq: at
        refine RW.assign rfl rfl ?_
        refine RW.nil (EX.seq (CW.region ?_))
        refine RW.move rfl rfl ?_
        refine RW.move rfl rfl ?_
        -- mq: guard slot 18
        refine RW.casesB 18 rfl (fun hA => ?_) (fun hA => ?_)
        · skip
          refine RW.guardT rfl rfl hA ?_
          refine RW.move rfl rfl ?_
          refine RW.guardT rfl rfl hA ?_
          refine RW.nilChk rfl rfl ?_
          refine RW.guardT rfl rfl hA ?_
          refine RW.loadBA ag24 rfl rfl (by first | exact Has.head | exact Has.tail Has.head | exact Has.tail (Has.tail Has.head) | exact Has.tail (Has.tail (Has.tail Has.head)) | exact Has.tail (Has.tail (Has.tail (Has.tail Has.head))) | exact Has.tail (Has.tail (Has.tail (Has.tail (Has.tail Has.head)))) | exact Has.tail (Has.tail (Has.tail (Has.tail (Has.tail (Has.tail Has.head)))))) rfl rfl ?_
          refine RW.guardT rfl rfl hA ?_
          refine RW.call rfl ca53 rfl (fun w' _ => right_c w' b.r4 b.c4) ?_
          refine RW.pickB rfl rfl hA rfl ?_
          refine RW.assign rfl rfl ?_
          refine RW.nil (EX.bkN (EX.seq (CW.region ?_)))
          refine RW.add rfl rfl rfl (wrap64 (by omega) (by omega)) ?_
          refine RW.move rfl rfl ?_
          refine RW.nil ?_
          -- mq: loopend
          exact EX.lpN 4 (by omega) (by omega) (by rw [accT_t (p := (b.r4, b.c4)) rfl hA]; exact (by repeat (first | exact Sub.nil | refine Sub.cons (by rfl) ?_))) (fun w' hw' => hw')
        · skip
          refine RW.guardF rfl rfl rfl hA ?_
          refine RW.guardF rfl rfl rfl hA ?_
          refine RW.guardF rfl rfl rfl hA ?_
          refine RW.guardF rfl rfl rfl hA ?_
          refine RW.pickC rfl rfl hA rfl ?_
          refine RW.assign rfl rfl ?_
          refine RW.nil (EX.bkN (EX.seq (CW.region ?_)))
          refine RW.add rfl rfl rfl (wrap64 (by omega) (by omega)) ?_
          refine RW.move rfl rfl ?_
          refine RW.nil ?_
          -- mq: loopend
          exact EX.lpN 4 (by omega) (by omega) (by rw [accT_f (p := (b.r4, b.c4)) rfl hA]; exact (by repeat (first | exact Sub.nil | refine Sub.cons (by rfl) ?_))) (fun w' hw' => hw')
      · skip
        refine CW.skip (EX.seq (CW.seq (CW.block (CW.seq (CW.region ?_)))))
        refine RW.ixValS (q := 4) Tryd.underlying56 sc55 rfl rfl rfl (by omega) (by omega) rfl ?_
        -- mq: at
        refine RW.assign rfl rfl ?_
        refine RW.nil (EX.seq (CW.region ?_))
        refine RW.move rfl rfl ?_
        refine RW.move rfl rfl ?_
        -- mq: guard slot 18
        refine RW.casesB 18 rfl (fun hA => ?_) (fun hA => ?_)
        · skip
          refine RW.guardT rfl rfl hA ?_
          refine RW.move rfl rfl ?_
          refine RW.guardT rfl rfl hA ?_
          refine RW.nilChk rfl rfl ?_
          refine RW.guardT rfl rfl hA ?_
          refine RW.loadBA ag24 rfl rfl (by first | exact Has.head | exact Has.tail Has.head | exact Has.tail (Has.tail Has.head) | exact Has.tail (Has.tail (Has.tail Has.head)) | exact Has.tail (Has.tail (Has.tail (Has.tail Has.head))) | exact Has.tail (Has.tail (Has.tail (Has.tail (Has.tail Has.head)))) | exact Has.tail (Has.tail (Has.tail (Has.tail (Has.tail (Has.tail Has.head)))))) rfl rfl ?_
          refine RW.guardT rfl rfl hA ?_
          refine RW.call rfl ca53 rfl (fun w' _ => right_c w' b.r5 b.c5) ?_
          refine RW.pickB rfl rfl hA rfl ?_
          refine RW.assign rfl rfl ?_
          refine RW.nil (EX.bkN (EX.seq (CW.region ?_)))
          refine RW.add rfl rfl rfl (wrap64 (by omega) (by omega)) ?_
          refine RW.move rfl rfl ?_
          refine RW.nil ?_
          -- mq: loopend
          exact EX.lpN 5 (by omega) (by omega) (by rw [accT_t (p := (b.r5, b.c5)) rfl hA]; exact (by repeat (first | exact Sub.nil | refine Sub.cons (by rfl) ?_))) (fun w' hw' => hw')
        · skip
          refine RW.guardF rfl rfl rfl hA ?_
          refine RW.guardF rfl rfl rfl hA ?_
          refine RW.guardF rfl rfl rfl hA ?_
          refine RW.guardF rfl rfl rfl hA ?_
          refine RW.pickC rfl rfl hA rfl ?_
          refine RW.assign rfl rfl ?_
          refine RW.nil (EX.bkN (EX.seq (CW.region ?_)))
          refine RW.add rfl rfl rfl (wrap64 (by omega) (by omega)) ?_
          refine RW.move rfl rfl ?_
          refine RW.nil ?_
          -- mq: loopend
          exact EX.lpN 5 (by omega) (by omega) (by rw [accT_f (p := (b.r5, b.c5)) rfl hA]; exact (by repeat (first | exact Sub.nil | refine Sub.cons (by rfl) ?_))) (fun w' hw' => hw')
    · skip
      obtain rfl : k = 5 := by omega
      refine CW.exit (EX.seqE (EX.lpE (EX.bkE (EX.seq (CW.seq (CW.region ?_))))))
      refine RW.move rfl rfl ?_
      refine RW.move rfl rfl ?_
      -- mq: guard slot 26
      refine RW.casesB 26 rfl (fun h1 => ?_) (fun h1 => ?_)
      · skip
        refine RW.guardT rfl rfl h1 ?_
        refine RW.fieldB fl26x10 rfl rfl ?_
        refine RW.guardT rfl rfl h1 ?_
        refine RW.loadB1 sc9 rfl rfl (by first | exact Has.head | exact Has.tail Has.head | exact Has.tail (Has.tail Has.head) | exact Has.tail (Has.tail (Has.tail Has.head)) | exact Has.tail (Has.tail (Has.tail (Has.tail Has.head))) | exact Has.tail (Has.tail (Has.tail (Has.tail (Has.tail Has.head)))) | exact Has.tail (Has.tail (Has.tail (Has.tail (Has.tail (Has.tail Has.head)))))) rfl ?_
        refine RW.guardT rfl rfl h1 ?_
        refine RW.lenS Tryd.underlying9 rfl rfl ?_
        refine RW.guardT rfl rfl h1 ?_
        refine RW.leq rfl rfl rfl ?_
        refine RW.pickB rfl rfl h1 rfl ?_
        refine RW.move rfl rfl ?_
        -- mq: guard slot 32
        refine RW.casesB 32 rfl (fun h2 => ?_) (fun h2 => ?_)
        · skip
          refine RW.guardT rfl rfl h2 ?_
          refine RW.fieldB fl26x11 rfl rfl ?_
          refine RW.guardT rfl rfl h2 ?_
          refine RW.loadB1 sc9 rfl rfl (by first | exact Has.head | exact Has.tail Has.head | exact Has.tail (Has.tail Has.head) | exact Has.tail (Has.tail (Has.tail Has.head)) | exact Has.tail (Has.tail (Has.tail (Has.tail Has.head))) | exact Has.tail (Has.tail (Has.tail (Has.tail (Has.tail Has.head)))) | exact Has.tail (Has.tail (Has.tail (Has.tail (Has.tail (Has.tail Has.head)))))) rfl ?_
          refine RW.guardT rfl rfl h2 ?_
          refine RW.lenS Tryd.underlying9 rfl rfl ?_
          refine RW.guardT rfl rfl h2 ?_
          refine RW.leq rfl rfl rfl ?_
          refine RW.pickB rfl rfl h2 rfl ?_
          refine RW.move rfl rfl ?_
          -- mq: guard slot 38
          refine RW.casesB 38 rfl (fun h3 => ?_) (fun h3 => ?_)
          · skip
            refine RW.guardT rfl rfl h3 ?_
            refine RW.fieldB fl26x8 rfl rfl ?_
            refine RW.guardT rfl rfl h3 ?_
            refine RW.loadB1 sc4 rfl rfl (by first | exact Has.head | exact Has.tail Has.head | exact Has.tail (Has.tail Has.head) | exact Has.tail (Has.tail (Has.tail Has.head)) | exact Has.tail (Has.tail (Has.tail (Has.tail Has.head))) | exact Has.tail (Has.tail (Has.tail (Has.tail (Has.tail Has.head)))) | exact Has.tail (Has.tail (Has.tail (Has.tail (Has.tail (Has.tail Has.head)))))) rfl ?_
            refine RW.guardT rfl rfl h3 ?_
            refine RW.move rfl rfl ?_
            -- mq: guard slot 41
            refine RW.casesB 41 rfl (fun h4 => ?_) (fun h4 => ?_)
            · skip
              refine RW.guardF rfl rfl rfl h4 ?_
              refine RW.guardF rfl rfl rfl h4 ?_
              refine RW.guardF rfl rfl rfl h4 ?_
              refine RW.guardT rfl rfl h3 ?_
              refine RW.pickB rfl rfl h4 rfl ?_
              refine RW.pickB rfl rfl h3 rfl ?_
              refine RW.assign rfl rfl ?_
              refine RW.nil (EX.seq (CW.ret ?_))
              refine EX.fin1 Tryd.results27 rfl (fun wz hw => ?_)
              -- mq: done
              refine ⟨?_, hw.ext⟩
              rw [toldB_acc, h1, show decide (b.dir.length ≤ 256) = true from by rw [← h2]; exact decide_eq_decide.2 (by omega), show decide (b.line.length ≤ 256) = true from by rw [← h3]; exact decide_eq_decide.2 (by omega), h4]; rfl
            · skip
              refine RW.guardT rfl rfl h4 ?_
              refine RW.fieldB fl26x7 rfl rfl ?_
              refine RW.guardT rfl rfl h4 ?_
              refine RW.loadB1 sc3 rfl rfl (by first | exact Has.head | exact Has.tail Has.head | exact Has.tail (Has.tail Has.head) | exact Has.tail (Has.tail (Has.tail Has.head)) | exact Has.tail (Has.tail (Has.tail (Has.tail Has.head))) | exact Has.tail (Has.tail (Has.tail (Has.tail (Has.tail Has.head)))) | exact Has.tail (Has.tail (Has.tail (Has.tail (Has.tail (Has.tail Has.head)))))) rfl ?_
              refine RW.guardT rfl rfl h4 ?_
              refine RW.eqlI rfl rfl rfl ?_
              refine RW.guardT rfl rfl h3 ?_
              refine RW.pickC rfl rfl h4 rfl ?_
              refine RW.pickB rfl rfl h3 rfl ?_
              refine RW.assign rfl rfl ?_
              refine RW.nil (EX.seq (CW.ret ?_))
              refine EX.fin1 Tryd.results27 rfl (fun wz hw => ?_)
              -- mq: done
              refine ⟨?_, hw.ext⟩
              rw [toldB_acc, h1, show decide (b.dir.length ≤ 256) = true from by rw [← h2]; exact decide_eq_decide.2 (by omega), show decide (b.line.length ≤ 256) = true from by rw [← h3]; exact decide_eq_decide.2 (by omega), h4]; rfl
          · skip
            refine RW.guardF rfl rfl rfl h3 ?_
            refine RW.guardF rfl rfl rfl h3 ?_
            refine RW.guardF rfl rfl rfl h3 ?_
            refine RW.guardU rfl rfl rfl ?_
            refine RW.guardU rfl rfl rfl ?_
            refine RW.guardU rfl rfl rfl ?_
            refine RW.guardF rfl rfl rfl h3 ?_
            refine RW.pickC rfl rfl h3 rfl ?_
            refine RW.assign rfl rfl ?_
            refine RW.nil (EX.seq (CW.ret ?_))
            refine EX.fin1 Tryd.results27 rfl (fun wz hw => ?_)
            -- mq: done
            refine ⟨?_, hw.ext⟩
            rw [toldB_acc, h1, show decide (b.dir.length ≤ 256) = true from by rw [← h2]; exact decide_eq_decide.2 (by omega), show decide (b.line.length ≤ 256) = false from by rw [← h3]; exact decide_eq_decide.2 (by omega)]; rfl
        · skip
          refine RW.guardF rfl rfl rfl h2 ?_
          refine RW.guardF rfl rfl rfl h2 ?_
          refine RW.guardF rfl rfl rfl h2 ?_
          refine RW.guardF rfl rfl rfl h2 ?_
          refine RW.pickC rfl rfl h2 rfl ?_
          refine RW.move rfl rfl ?_
          refine RW.guardF rfl rfl rfl rfl ?_
          refine RW.guardF rfl rfl rfl rfl ?_
          refine RW.guardF rfl rfl rfl rfl ?_
          refine RW.guardU rfl rfl rfl ?_
          refine RW.guardU rfl rfl rfl ?_
          refine RW.guardU rfl rfl rfl ?_
          refine RW.guardF rfl rfl rfl rfl ?_
          refine RW.pickC rfl rfl rfl rfl ?_
          refine RW.assign rfl rfl ?_
          refine RW.nil (EX.seq (CW.ret ?_))
          refine EX.fin1 Tryd.results27 rfl (fun wz hw => ?_)
          -- mq: done
          refine ⟨?_, hw.ext⟩
          rw [toldB_acc, h1, show decide (b.dir.length ≤ 256) = false from by rw [← h2]; exact decide_eq_decide.2 (by omega)]; rfl
      · skip
        refine RW.guardF rfl rfl rfl h1 ?_
        refine RW.guardF rfl rfl rfl h1 ?_
        refine RW.guardF rfl rfl rfl h1 ?_
        refine RW.guardF rfl rfl rfl h1 ?_
        refine RW.pickC rfl rfl h1 rfl ?_
        refine RW.move rfl rfl ?_
        refine RW.guardF rfl rfl rfl rfl ?_
        refine RW.guardF rfl rfl rfl rfl ?_
        refine RW.guardF rfl rfl rfl rfl ?_
        refine RW.guardF rfl rfl rfl rfl ?_
        refine RW.pickC rfl rfl rfl rfl ?_
        refine RW.move rfl rfl ?_
        refine RW.guardF rfl rfl rfl rfl ?_
        refine RW.guardF rfl rfl rfl rfl ?_
        refine RW.guardF rfl rfl rfl rfl ?_
        refine RW.guardU rfl rfl rfl ?_
        refine RW.guardU rfl rfl rfl ?_
        refine RW.guardU rfl rfl rfl ?_
        refine RW.guardF rfl rfl rfl rfl ?_
        refine RW.pickC rfl rfl rfl rfl ?_
        refine RW.assign rfl rfl ?_
        refine RW.nil (EX.seq (CW.ret ?_))
        refine EX.fin1 Tryd.results27 rfl (fun wz hw => ?_)
        -- mq: done
        refine ⟨?_, hw.ext⟩
        rw [toldB_acc, h1]; rfl
theorem rightP_eq (p : Int × Int) : rightP p = (decide (0 ≤ p.1 ∧ p.1 ≤ 1099511627776) && decide (0 ≤ p.2 ∧ p.2 ≤ 1099511627776)) := by
  unfold rightP
  by_cases h1 : 0 ≤ p.1 ∧ p.1 ≤ 1099511627776
  · by_cases h2 : 0 ≤ p.2 ∧ p.2 ≤ 1099511627776
    · rw [decide_eq_true h1, decide_eq_true h2, decide_eq_true (by omega)]; rfl
    · rw [decide_eq_false h2, decide_eq_false (by omega), Bool.and_false]
  · rw [decide_eq_false h1, decide_eq_false (by omega)]; rfl
theorem told_bad {b : BlkV} {k : Nat} {p : Int × Int} (h : b.pos[k]? = some p) (hp : rightP p = false) : toldB b = false := by
  cases ht : toldB b with
  | false => rfl
  | true => rw [(toldB_iff.1 ht).2.1 p (List.mem_of_getElem? h)] at hp; cases hp
theorem refTold_c (w : World) (b : BlkV) : Calls Tryd.prog 16 [.agg b.cells.toArray].toArray w (fun e w' => e = .returned (.bool (toldB b)) ∧ Ext [] w w') := by
  refine calls (n := 58) Tryd.func16 rfl Tryd.ntmps16 rfl ?_
  refine CW.sub (H' := SH w [] []) ?_ (Sub.refl _) (fun x hx => SH.start' _ _ hx)
  refine CW.seq (CW.region ?_)
  refine RW.boxA rfl rfl (fun g1 hg1 hf1 => ?_)
  refine RW.assign rfl rfl ?_
  refine RW.nil (EX.seq (CW.seq ?_))
  -- mq: region
  refine CW.region ?_
  refine RW.loadBA ag26 rfl rfl (by first | exact Has.head | exact Has.tail Has.head | exact Has.tail (Has.tail Has.head) | exact Has.tail (Has.tail (Has.tail Has.head)) | exact Has.tail (Has.tail (Has.tail (Has.tail Has.head))) | exact Has.tail (Has.tail (Has.tail (Has.tail (Has.tail Has.head)))) | exact Has.tail (Has.tail (Has.tail (Has.tail (Has.tail (Has.tail Has.head)))))) rfl rfl ?_
  -- mq: at
  refine RW.callK rfl ca31 rfl (fun w' _ => refPlaces_c w' b) (fun w0 w1 A9 n9 c9 hw0 he01 hw1 hlt9 hrd9 => ?_)
  have hn9 : n9 = 5 := hrd9.len.symm
  have hx1 : Ext [] w w1 := hw0.ext.trans0 he01
  have hcv := hw0.cov
  refine RW.assign rfl rfl ?_
  refine RW.nil (EX.seq (CW.seq (CW.seq (CW.region ?_))))
  refine RW.assign rfl rfl ?_
  refine RW.nil (EX.seq (CW.block ?_))
  -- mq: loop
  refine CW.loop (ι := Nat) (fun k => [(1, .pointer (some ⟨g1, 0, none⟩)), (3, .slice A9 n9 c9), (4, .int .i64 (k : Int))]) (fun _ => SH w1 (feet [blk g1 b.cells 26]) [blk g1 b.cells 26]) (fun k => k ≤ 5 ∧ (b.pos.take k).all rightP = true) (fun k => 5 - k) ?_ ?_
  · exact fun w' hw' => ⟨0, ⟨Nat.zero_le _, by simp⟩, (by repeat (first | exact Sub.nil | refine Sub.cons (by rfl) ?_)), hw'⟩
  · rintro k ⟨hk, hall⟩
    refine CW.seq (CW.seq (CW.region ?_))
    refine RW.move rfl rfl ?_
    refine RW.move rfl rfl ?_
    refine RW.lenSl Tryd.underlying61 rfl rfl ?_
    refine RW.lss rfl rfl rfl ?_
    refine RW.nil (EX.seq ?_)
    -- mq: cond
    first | refine CW.condD rfl (fun hlt => ?_) (fun hlt => ?_) | refine CW.cond rfl (fun hlt => ?_) (fun hlt => ?_)
    · skip
      obtain ⟨p, hp⟩ : ∃ p, b.pos[k]? = some p := ⟨b.pos[k]'(by show k < 5; omega), List.getElem?_eq_getElem _⟩
      obtain ⟨ad, hA, had, hcell⟩ := hrd9.at_ hp
      have hnf : ∀ o, ((ad.add (k * 2)).add o).block ∉ feet [blk g1 b.cells 26] := fun o hk2 => by
        have := hlt9 _ hk2
        have : w0.heap.size ≤ ad.block := had
        simp only [block_add] at *; omega
      have hall2 := List.take_add_one (l := b.pos) (i := k)
      rw [hp, Option.toList_some] at hall2
      refine CW.skip (EX.seq (CW.seq (CW.block (CW.seq (CW.region ?_)))))
      refine RW.move rfl rfl ?_
      refine RW.move rfl rfl ?_
      refine RW.ixAddr (q := k) sl61 rfl rfl rfl (by first | rfl | assumption) (by omega) (by omega) ?_
      refine RW.fieldP fl24x0 rfl rfl ?_
      refine RW.load1 sc3 rfl rfl (fun w' hw' => hw'.base_cell (hcell 0 _ rfl) (hnf 0)) ?_
      refine RW.call rfl ca32 rfl (fun w' _ => refRight_c w' p.1) ?_
      refine RW.not_ rfl rfl ?_
      refine RW.move rfl rfl ?_
      -- mq: guard slot 20
      refine RW.casesB 20 rfl (fun h1 => ?_) (fun h1 => ?_)
      · skip
        refine RW.guardF rfl rfl rfl h1 ?_
        refine RW.guardF rfl rfl rfl h1 ?_
        refine RW.guardF rfl rfl rfl h1 ?_
        refine RW.guardF rfl rfl rfl h1 ?_
        refine RW.guardF rfl rfl rfl h1 ?_
        refine RW.guardF rfl rfl rfl h1 ?_
        refine RW.guardF rfl rfl rfl h1 ?_
        refine RW.pickB rfl rfl h1 rfl ?_
        refine RW.nil (EX.seq ?_)
        -- mq: cond
        refine CW.condT rfl (rfl) ?_
        refine CW.seq (CW.region ?_)
        refine RW.assign rfl rfl ?_
        refine RW.nil (EX.seq (CW.ret (EX.bkR (EX.seqR (EX.lpR (EX.bkR (EX.seqR ?_)))))))
        refine EX.fin1 Tryd.results16 rfl (fun wz hw => ?_)
        -- mq: done
        refine ⟨?_, (hw.unbase hx1 hcv).ext⟩
        rw [told_bad hp (by rw [rightP_eq, nb_f h1]; rfl)]
      · skip
        refine RW.guardT rfl rfl h1 ?_
        refine RW.move rfl rfl ?_
        refine RW.guardT rfl rfl h1 ?_
        refine RW.move rfl rfl ?_
        refine RW.guardT rfl rfl h1 ?_
        refine RW.ixAddr (q := k) sl61 rfl rfl rfl (by first | rfl | assumption) (by omega) (by omega) ?_
        refine RW.guardT rfl rfl h1 ?_
        refine RW.fieldP fl24x1 rfl rfl ?_
        refine RW.guardT rfl rfl h1 ?_
        refine RW.load1 sc3 rfl rfl (fun w' hw' => hw'.base_cell (hcell 1 _ rfl) (hnf 1)) ?_
        refine RW.guardT rfl rfl h1 ?_
        refine RW.call rfl ca32 rfl (fun w' _ => refRight_c w' p.2) ?_
        refine RW.guardT rfl rfl h1 ?_
        refine RW.not_ rfl rfl ?_
        refine RW.pickC rfl rfl h1 rfl ?_
        refine RW.nil (EX.seq ?_)
        -- mq: cond
        first | refine CW.condD rfl (fun h2 => ?_) (fun h2 => ?_) | refine CW.cond rfl (fun h2 => ?_) (fun h2 => ?_)
        · skip
          refine CW.seq (CW.region ?_)
          refine RW.assign rfl rfl ?_
          refine RW.nil (EX.seq (CW.ret (EX.bkR (EX.seqR (EX.lpR (EX.bkR (EX.seqR ?_)))))))
          refine EX.fin1 Tryd.results16 rfl (fun wz hw => ?_)
          -- mq: done
          refine ⟨?_, (hw.unbase hx1 hcv).ext⟩
          rw [told_bad hp (by rw [rightP_eq, show decide (0 ≤ p.2 ∧ p.2 ≤ 1099511627776) = false from nb_f (by simpa using h2), Bool.and_false])]
        · skip
          refine CW.skip (EX.bkN (EX.seq (CW.region ?_)))
          refine RW.move rfl rfl ?_
          refine RW.add rfl rfl rfl (wrap64 (by omega) (by omega)) ?_
          refine RW.assign rfl rfl ?_
          refine RW.nil ?_
          -- mq: loopend
          refine EX.lpN (k + 1) ⟨by omega, ?_⟩ (by omega) (by repeat (first | exact Sub.nil | refine Sub.cons (by rfl) ?_)) (fun w' hw' => hw')
          rw [hall2, List.all_append, hall]
          have e1 := nb_t h1
          have e2 : decide (0 ≤ p.2 ∧ p.2 ≤ 1099511627776) = true := by simpa using h2
          simp [rightP_eq, e1, e2]
    · skip
      obtain rfl : k = 5 := by omega
      have hacc : accT b 5 = decide (0 ≤ b.ph ∧ b.ph ≤ 4) := by unfold accT; rw [hall, Bool.and_true]
      refine CW.exit (EX.seqE (EX.lpE (EX.bkE (EX.seq (CW.seq (CW.region ?_))))))
      refine RW.fieldB fl26x1 rfl rfl ?_
      refine RW.loadB1 sc3 rfl rfl (by first | exact Has.head | exact Has.tail Has.head | exact Has.tail (Has.tail Has.head) | exact Has.tail (Has.tail (Has.tail Has.head)) | exact Has.tail (Has.tail (Has.tail (Has.tail Has.head))) | exact Has.tail (Has.tail (Has.tail (Has.tail (Has.tail Has.head)))) | exact Has.tail (Has.tail (Has.tail (Has.tail (Has.tail (Has.tail Has.head)))))) rfl ?_
      refine RW.geq rfl rfl rfl ?_
      refine RW.move rfl rfl ?_
      -- mq: guard slot 32
      refine RW.casesB 32 rfl (fun h1 => ?_) (fun h1 => ?_)
      · skip
        refine RW.guardT rfl rfl h1 ?_
        refine RW.fieldB fl26x1 rfl rfl ?_
        refine RW.guardT rfl rfl h1 ?_
        refine RW.loadB1 sc3 rfl rfl (by first | exact Has.head | exact Has.tail Has.head | exact Has.tail (Has.tail Has.head) | exact Has.tail (Has.tail (Has.tail Has.head)) | exact Has.tail (Has.tail (Has.tail (Has.tail Has.head))) | exact Has.tail (Has.tail (Has.tail (Has.tail (Has.tail Has.head)))) | exact Has.tail (Has.tail (Has.tail (Has.tail (Has.tail (Has.tail Has.head)))))) rfl ?_
        refine RW.guardT rfl rfl h1 ?_
        refine RW.leq rfl rfl rfl ?_
        refine RW.pickB rfl rfl h1 rfl ?_
        refine RW.move rfl rfl ?_
        -- mq: guard slot 37
        refine RW.casesB 37 rfl (fun h2 => ?_) (fun h2 => ?_)
        · skip
          refine RW.guardT rfl rfl h2 ?_
          refine RW.fieldB fl26x10 rfl rfl ?_
          refine RW.guardT rfl rfl h2 ?_
          refine RW.loadB1 sc9 rfl rfl (by first | exact Has.head | exact Has.tail Has.head | exact Has.tail (Has.tail Has.head) | exact Has.tail (Has.tail (Has.tail Has.head)) | exact Has.tail (Has.tail (Has.tail (Has.tail Has.head))) | exact Has.tail (Has.tail (Has.tail (Has.tail (Has.tail Has.head)))) | exact Has.tail (Has.tail (Has.tail (Has.tail (Has.tail (Has.tail Has.head)))))) rfl ?_
          refine RW.guardT rfl rfl h2 ?_
          refine RW.lenS Tryd.underlying9 rfl rfl ?_
          refine RW.guardT rfl rfl h2 ?_
          refine RW.leq rfl rfl rfl ?_
          refine RW.pickB rfl rfl h2 rfl ?_
          refine RW.move rfl rfl ?_
          -- mq: guard slot 43
          refine RW.casesB 43 rfl (fun h3 => ?_) (fun h3 => ?_)
          · skip
            refine RW.guardT rfl rfl h3 ?_
            refine RW.fieldB fl26x11 rfl rfl ?_
            refine RW.guardT rfl rfl h3 ?_
            refine RW.loadB1 sc9 rfl rfl (by first | exact Has.head | exact Has.tail Has.head | exact Has.tail (Has.tail Has.head) | exact Has.tail (Has.tail (Has.tail Has.head)) | exact Has.tail (Has.tail (Has.tail (Has.tail Has.head))) | exact Has.tail (Has.tail (Has.tail (Has.tail (Has.tail Has.head)))) | exact Has.tail (Has.tail (Has.tail (Has.tail (Has.tail (Has.tail Has.head)))))) rfl ?_
            refine RW.guardT rfl rfl h3 ?_
            refine RW.lenS Tryd.underlying9 rfl rfl ?_
            refine RW.guardT rfl rfl h3 ?_
            refine RW.leq rfl rfl rfl ?_
            refine RW.pickB rfl rfl h3 rfl ?_
            refine RW.move rfl rfl ?_
            -- mq: guard slot 49
            refine RW.casesB 49 rfl (fun h4 => ?_) (fun h4 => ?_)
            · skip
              refine RW.guardT rfl rfl h4 ?_
              refine RW.fieldB fl26x8 rfl rfl ?_
              refine RW.guardT rfl rfl h4 ?_
              refine RW.loadB1 sc4 rfl rfl (by first | exact Has.head | exact Has.tail Has.head | exact Has.tail (Has.tail Has.head) | exact Has.tail (Has.tail (Has.tail Has.head)) | exact Has.tail (Has.tail (Has.tail (Has.tail Has.head))) | exact Has.tail (Has.tail (Has.tail (Has.tail (Has.tail Has.head)))) | exact Has.tail (Has.tail (Has.tail (Has.tail (Has.tail (Has.tail Has.head)))))) rfl ?_
              refine RW.guardT rfl rfl h4 ?_
              refine RW.move rfl rfl ?_
              -- mq: guard slot 52
              refine RW.casesB 52 rfl (fun h5 => ?_) (fun h5 => ?_)
              · skip
                refine RW.guardF rfl rfl rfl h5 ?_
                refine RW.guardF rfl rfl rfl h5 ?_
                refine RW.guardF rfl rfl rfl h5 ?_
                refine RW.guardT rfl rfl h4 ?_
                refine RW.pickB rfl rfl h5 rfl ?_
                refine RW.pickB rfl rfl h4 rfl ?_
                refine RW.assign rfl rfl ?_
                refine RW.nil (EX.seq (CW.ret ?_))
                refine EX.fin1 Tryd.results16 rfl (fun wz hw => ?_)
                -- mq: done
                refine ⟨?_, (hw.unbase hx1 hcv).ext⟩
                rw [toldB_acc, hacc, show decide (0 ≤ b.ph ∧ b.ph ≤ 4) = true from by exact decide_eq_true (by have := of_decide_eq_true h1; have := of_decide_eq_true h2; omega), show decide (b.dir.length ≤ 256) = true from by rw [← h3]; exact decide_eq_decide.2 (by omega), show decide (b.line.length ≤ 256) = true from by rw [← h4]; exact decide_eq_decide.2 (by omega), h5]; rfl
              · skip
                refine RW.guardT rfl rfl h5 ?_
                refine RW.fieldB fl26x7 rfl rfl ?_
                refine RW.guardT rfl rfl h5 ?_
                refine RW.loadB1 sc3 rfl rfl (by first | exact Has.head | exact Has.tail Has.head | exact Has.tail (Has.tail Has.head) | exact Has.tail (Has.tail (Has.tail Has.head)) | exact Has.tail (Has.tail (Has.tail (Has.tail Has.head))) | exact Has.tail (Has.tail (Has.tail (Has.tail (Has.tail Has.head)))) | exact Has.tail (Has.tail (Has.tail (Has.tail (Has.tail (Has.tail Has.head)))))) rfl ?_
                refine RW.guardT rfl rfl h5 ?_
                refine RW.eqlI rfl rfl rfl ?_
                refine RW.guardT rfl rfl h4 ?_
                refine RW.pickC rfl rfl h5 rfl ?_
                refine RW.pickB rfl rfl h4 rfl ?_
                refine RW.assign rfl rfl ?_
                refine RW.nil (EX.seq (CW.ret ?_))
                refine EX.fin1 Tryd.results16 rfl (fun wz hw => ?_)
                -- mq: done
                refine ⟨?_, (hw.unbase hx1 hcv).ext⟩
                rw [toldB_acc, hacc, show decide (0 ≤ b.ph ∧ b.ph ≤ 4) = true from by exact decide_eq_true (by have := of_decide_eq_true h1; have := of_decide_eq_true h2; omega), show decide (b.dir.length ≤ 256) = true from by rw [← h3]; exact decide_eq_decide.2 (by omega), show decide (b.line.length ≤ 256) = true from by rw [← h4]; exact decide_eq_decide.2 (by omega), h5]; rfl
            · skip
              refine RW.guardF rfl rfl rfl h4 ?_
              refine RW.guardF rfl rfl rfl h4 ?_
              refine RW.guardF rfl rfl rfl h4 ?_
              refine RW.guardU rfl rfl rfl ?_
              refine RW.guardU rfl rfl rfl ?_
              refine RW.guardU rfl rfl rfl ?_
              refine RW.guardF rfl rfl rfl h4 ?_
              refine RW.pickC rfl rfl h4 rfl ?_
              refine RW.assign rfl rfl ?_
              refine RW.nil (EX.seq (CW.ret ?_))
              refine EX.fin1 Tryd.results16 rfl (fun wz hw => ?_)
              -- mq: done
              refine ⟨?_, (hw.unbase hx1 hcv).ext⟩
              rw [toldB_acc, hacc, show decide (0 ≤ b.ph ∧ b.ph ≤ 4) = true from by exact decide_eq_true (by have := of_decide_eq_true h1; have := of_decide_eq_true h2; omega), show decide (b.dir.length ≤ 256) = true from by rw [← h3]; exact decide_eq_decide.2 (by omega), show decide (b.line.length ≤ 256) = false from by rw [← h4]; exact decide_eq_decide.2 (by omega)]; rfl
          · skip
            refine RW.guardF rfl rfl rfl h3 ?_
            refine RW.guardF rfl rfl rfl h3 ?_
            refine RW.guardF rfl rfl rfl h3 ?_
            refine RW.guardF rfl rfl rfl h3 ?_
            refine RW.pickC rfl rfl h3 rfl ?_
            refine RW.move rfl rfl ?_
            refine RW.guardF rfl rfl rfl rfl ?_
            refine RW.guardF rfl rfl rfl rfl ?_
            refine RW.guardF rfl rfl rfl rfl ?_
            refine RW.guardU rfl rfl rfl ?_
            refine RW.guardU rfl rfl rfl ?_
            refine RW.guardU rfl rfl rfl ?_
            refine RW.guardF rfl rfl rfl rfl ?_
            refine RW.pickC rfl rfl rfl rfl ?_
            refine RW.assign rfl rfl ?_
            refine RW.nil (EX.seq (CW.ret ?_))
            refine EX.fin1 Tryd.results16 rfl (fun wz hw => ?_)
            -- mq: done
            refine ⟨?_, (hw.unbase hx1 hcv).ext⟩
            rw [toldB_acc, hacc, show decide (0 ≤ b.ph ∧ b.ph ≤ 4) = true from by exact decide_eq_true (by have := of_decide_eq_true h1; have := of_decide_eq_true h2; omega), show decide (b.dir.length ≤ 256) = false from by rw [← h3]; exact decide_eq_decide.2 (by omega)]; rfl
        · skip
          refine RW.guardF rfl rfl rfl h2 ?_
          refine RW.guardF rfl rfl rfl h2 ?_
          refine RW.guardF rfl rfl rfl h2 ?_
          refine RW.guardF rfl rfl rfl h2 ?_
          refine RW.pickC rfl rfl h2 rfl ?_
          refine RW.move rfl rfl ?_
          refine RW.guardF rfl rfl rfl rfl ?_
          refine RW.guardF rfl rfl rfl rfl ?_
          refine RW.guardF rfl rfl rfl rfl ?_
          refine RW.guardF rfl rfl rfl rfl ?_
          refine RW.pickC rfl rfl rfl rfl ?_
          refine RW.move rfl rfl ?_
          refine RW.guardF rfl rfl rfl rfl ?_
          refine RW.guardF rfl rfl rfl rfl ?_
          refine RW.guardF rfl rfl rfl rfl ?_
          refine RW.guardU rfl rfl rfl ?_
          refine RW.guardU rfl rfl rfl ?_
          refine RW.guardU rfl rfl rfl ?_
          refine RW.guardF rfl rfl rfl rfl ?_
          refine RW.pickC rfl rfl rfl rfl ?_
          refine RW.assign rfl rfl ?_
          refine RW.nil (EX.seq (CW.ret ?_))
          refine EX.fin1 Tryd.results16 rfl (fun wz hw => ?_)
          -- mq: done
          refine ⟨?_, (hw.unbase hx1 hcv).ext⟩
          rw [toldB_acc, hacc, show decide (0 ≤ b.ph ∧ b.ph ≤ 4) = false from by exact decide_eq_false (by have := of_decide_eq_false h2; omega)]; rfl
      · skip
        refine RW.guardF rfl rfl rfl h1 ?_
        refine RW.guardF rfl rfl rfl h1 ?_
        refine RW.guardF rfl rfl rfl h1 ?_
        refine RW.pickC rfl rfl h1 rfl ?_
        refine RW.move rfl rfl ?_
        refine RW.guardF rfl rfl rfl rfl ?_
        refine RW.guardF rfl rfl rfl rfl ?_
        refine RW.guardF rfl rfl rfl rfl ?_
        refine RW.guardF rfl rfl rfl rfl ?_
        refine RW.pickC rfl rfl rfl rfl ?_
        refine RW.move rfl rfl ?_
        refine RW.guardF rfl rfl rfl rfl ?_
        refine RW.guardF rfl rfl rfl rfl ?_
        refine RW.guardF rfl rfl rfl rfl ?_
        refine RW.guardF rfl rfl rfl rfl ?_
        refine RW.pickC rfl rfl rfl rfl ?_
        refine RW.move rfl rfl ?_
        refine RW.guardF rfl rfl rfl rfl ?_
        refine RW.guardF rfl rfl rfl rfl ?_
        refine RW.guardF rfl rfl rfl rfl ?_
        refine RW.guardU rfl rfl rfl ?_
        refine RW.guardU rfl rfl rfl ?_
        refine RW.guardU rfl rfl rfl ?_
        refine RW.guardF rfl rfl rfl rfl ?_
        refine RW.pickC rfl rfl rfl rfl ?_
        refine RW.assign rfl rfl ?_
        refine RW.nil (EX.seq (CW.ret ?_))
        refine EX.fin1 Tryd.results16 rfl (fun wz hw => ?_)
        -- mq: done
        refine ⟨?_, (hw.unbase hx1 hcv).ext⟩
        rw [toldB_acc, hacc, show decide (0 ≤ b.ph ∧ b.ph ≤ 4) = false from by exact decide_eq_false (by have := of_decide_eq_false h1; omega)]; rfl
end Go.Proofs.YtnkdabjahmjdoaaDoor.Mq
