/- dump: DumpLines -/
import Derived.Test.YtnkdabjahmjdoaaDoorR8
namespace Go.Proofs.YtnkdabjahmjdoaaDoor.Mq
open Go Go.RowKit Go.Proofs

structure GD (w : World) : Prop where
  l : Gl w
  e : Ge w
  m : Gm w
theorem GD.ext {w w' : World} (h : GD w) (hx : Ext [] w w') : GD w' := ⟨h.l.ext hx, h.e.ext hx, h.m.ext hx⟩
set_option maxHeartbeats 2000000 in
theorem dlines_c (w : World) (hg : GD w) (b : BlkV) (hb : b.Wf) :
    Calls Tryd.prog 5 [.agg b.cells.toArray].toArray w (fun e w' => e = .returned (.bool true) ∧ Ext [] w w') := by
  refine calls (n := 51) Tryd.func5 rfl Tryd.ntmps5 rfl ?_
  refine CW.sub (H' := SH w [] []) ?_ (Sub.refl _) (fun x hx => SH.start' _ _ hx)
  refine CW.seq (CW.region ?_)
  refine RW.boxA rfl rfl (fun g1 hg1 hf1 => ?_)
  refine RW.assign rfl rfl ?_
  refine RW.nil (EX.seq (CW.seq (CW.seq ?_)))
  -- mq: region
  refine CW.region ?_
  refine RW.loadBA ag26 rfl rfl (by first | exact Has.head | exact Has.tail Has.head | exact Has.tail (Has.tail Has.head) | exact Has.tail (Has.tail (Has.tail Has.head)) | exact Has.tail (Has.tail (Has.tail (Has.tail Has.head))) | exact Has.tail (Has.tail (Has.tail (Has.tail (Has.tail Has.head)))) | exact Has.tail (Has.tail (Has.tail (Has.tail (Has.tail (Has.tail Has.head)))))) rfl rfl ?_
  refine RW.buildSlc (out := EBlk.all [b]) sl28 rfl rfl rfl (by kernel_rfl) (fun g8 hg8 hf8 => ?_)
  refine RW.call rfl ca9 rfl (fun w' hw' => great_c w' _ _ _ _ [b] (Rd.of_blk (E := EBlk) hw' Has.head rfl (by decide))) ?_
  refine RW.move rfl rfl ?_
  -- mq: guard slot 10
  refine RW.casesB 10 rfl (fun hG => ?_) (fun hG => ?_)
  · skip
    refine RW.guardF rfl rfl rfl hG ?_
    refine RW.guardF rfl rfl rfl hG ?_
    refine RW.pickB rfl rfl hG rfl ?_
    refine RW.nil (EX.seq ?_)
    -- mq: cond
    refine CW.condT rfl (rfl) ?_
    refine CW.seq (CW.region ?_)
    refine RW.call rfl ca10 rfl (fun w' hw' => awake_c w' (hg.ext hw'.ext).l) ?_
    refine RW.assign rfl rfl ?_
    refine RW.nil (EX.seq (CW.ret (EX.seqR ?_)))
    refine EX.fin1 Tryd.results5 rfl (fun wz hw => ?_)
    -- mq: done
    exact ⟨rfl, hw.ext⟩
  · skip
    refine RW.guardT rfl rfl hG ?_
    refine RW.call rfl ca10 rfl (fun w' hw' => awake_c w' (hg.ext hw'.ext).l) ?_
    refine RW.guardT rfl rfl hG ?_
    refine RW.not_ rfl rfl ?_
    refine RW.pickC rfl rfl hG rfl ?_
    refine RW.nil (EX.seq ?_)
    -- mq: cond
    refine CW.condF rfl (rfl) ?_
    refine CW.skip (EX.seq (CW.seq ?_))
    -- mq: region
    have hla := fun w' (hw' : Gl w') => line_c w' hw' b hb
    by_cases ht : toldB b = true
    · skip
      rw [lineR, if_pos ht] at hla
      have hll := lineF_len hb ht
      have hps : parseD (lineF b) = (b, 0) := parseD_some ⟨hb, ht, rfl⟩
      refine CW.region ?_
      refine RW.loadBA ag26 rfl rfl (by first | exact Has.head | exact Has.tail Has.head | exact Has.tail (Has.tail Has.head) | exact Has.tail (Has.tail (Has.tail Has.head)) | exact Has.tail (Has.tail (Has.tail (Has.tail Has.head))) | exact Has.tail (Has.tail (Has.tail (Has.tail (Has.tail Has.head)))) | exact Has.tail (Has.tail (Has.tail (Has.tail (Has.tail (Has.tail Has.head)))))) rfl rfl ?_
      refine RW.call rfl ca15 rfl (fun w' hw' => hla w' (hg.ext hw'.ext).l) ?_
      refine RW.move rfl rfl ?_
      refine RW.extract rfl rfl rfl ?_
      refine RW.extract rfl rfl rfl ?_
      refine RW.assign rfl rfl ?_
      refine RW.assign rfl rfl ?_
      refine RW.nil (EX.seq (CW.seq (CW.seq ?_)))
      -- mq: region
      refine CW.region ?_
      refine RW.loadBA ag26 rfl rfl (by first | exact Has.head | exact Has.tail Has.head | exact Has.tail (Has.tail Has.head) | exact Has.tail (Has.tail (Has.tail Has.head)) | exact Has.tail (Has.tail (Has.tail (Has.tail Has.head))) | exact Has.tail (Has.tail (Has.tail (Has.tail (Has.tail Has.head)))) | exact Has.tail (Has.tail (Has.tail (Has.tail (Has.tail (Has.tail Has.head)))))) rfl rfl ?_
      refine RW.call (v := .bool true) rfl ca16 rfl (fun w' _ => by have h := refTold_c w' b; rw [ht] at h; exact h) ?_
      refine RW.not_ rfl rfl ?_
      refine RW.nil (EX.seq ?_)
      -- mq: cond
      refine CW.condF rfl (rfl) ?_
      refine CW.skip (EX.seq (CW.seq (CW.region ?_)))
      refine RW.move rfl rfl ?_
      refine RW.call (v := dparV (b, 0)) rfl ca17 rfl (fun w' hw' => by have h := dparse_c w' (hg.ext hw'.ext).l (hg.ext hw'.ext).e (hg.ext hw'.ext).m (lineF b) (by omega); rw [hps] at h; exact h) ?_
      refine RW.move rfl rfl ?_
      refine RW.extract rfl rfl rfl ?_
      refine RW.extract rfl rfl rfl ?_
      refine RW.allocA ag26 rfl (fun g5 hg5 hf5 => ?_)
      refine RW.storeA ag26 rfl rfl (by first | exact Upd.head | exact Upd.tail Upd.head | exact Upd.tail (Upd.tail Upd.head) | exact Upd.tail (Upd.tail (Upd.tail Upd.head)) | exact Upd.tail (Upd.tail (Upd.tail (Upd.tail Upd.head))) | exact Upd.tail (Upd.tail (Upd.tail (Upd.tail (Upd.tail Upd.head)))) | exact Upd.tail (Upd.tail (Upd.tail (Upd.tail (Upd.tail (Upd.tail Upd.head)))))) (by first | rfl | exact Enc.len _ _) (by repeat (first | exact Ones.nil | exact Enc.ones _ _ | refine Ones.cons rfl ?_)) (by first | exact Nat.le_of_ble_eq_true rfl | (simp only [Enc.len]; decide)) ?_
      refine RW.assign rfl rfl ?_
      refine RW.nil (EX.seq (CW.seq ?_))
      -- mq: region
      refine CW.sub (H' := SH w [] [blk g5 b.cells 26, blk g8 (EBlk.all [b]) 26, blk g1 b.cells 26]) ?_ (Sub.refl _) (fun x hx => hx.blkEq (by kernel_rfl))
      refine CW.region ?_
      refine RW.move rfl rfl ?_
      refine RW.eqlI rfl rfl rfl ?_
      refine RW.move rfl rfl ?_
      refine RW.guardT rfl rfl rfl ?_
      refine RW.move rfl rfl ?_
      refine RW.guardT rfl rfl rfl ?_
      refine RW.loadBA ag26 rfl rfl (by first | exact Has.head | exact Has.tail Has.head | exact Has.tail (Has.tail Has.head) | exact Has.tail (Has.tail (Has.tail Has.head)) | exact Has.tail (Has.tail (Has.tail (Has.tail Has.head))) | exact Has.tail (Has.tail (Has.tail (Has.tail (Has.tail Has.head)))) | exact Has.tail (Has.tail (Has.tail (Has.tail (Has.tail (Has.tail Has.head)))))) rfl rfl ?_
      refine RW.guardT rfl rfl rfl ?_
      refine RW.call rfl ca18 rfl (fun w' _ => refLine31_c w' b hb ht) ?_
      refine RW.guardT rfl rfl rfl ?_
      refine RW.eqlS rfl rfl rfl ?_
      refine RW.pickB rfl rfl rfl rfl ?_
      refine RW.move rfl rfl ?_
      refine RW.guardT rfl rfl (decide_eq_true rfl) ?_
      refine RW.move rfl rfl ?_
      refine RW.guardT rfl rfl (decide_eq_true rfl) ?_
      refine RW.eqlI rfl rfl rfl ?_
      refine RW.pickB rfl rfl (decide_eq_true rfl) rfl ?_
      refine RW.move rfl rfl ?_
      refine RW.guardT rfl rfl rfl ?_
      refine RW.loadBA ag26 rfl rfl (by first | exact Has.head | exact Has.tail Has.head | exact Has.tail (Has.tail Has.head) | exact Has.tail (Has.tail (Has.tail Has.head)) | exact Has.tail (Has.tail (Has.tail (Has.tail Has.head))) | exact Has.tail (Has.tail (Has.tail (Has.tail (Has.tail Has.head)))) | exact Has.tail (Has.tail (Has.tail (Has.tail (Has.tail (Has.tail Has.head)))))) rfl rfl ?_
      refine RW.guardT rfl rfl rfl ?_
      refine RW.loadBA ag26 rfl rfl (by first | exact Has.head | exact Has.tail Has.head | exact Has.tail (Has.tail Has.head) | exact Has.tail (Has.tail (Has.tail Has.head)) | exact Has.tail (Has.tail (Has.tail (Has.tail Has.head))) | exact Has.tail (Has.tail (Has.tail (Has.tail (Has.tail Has.head)))) | exact Has.tail (Has.tail (Has.tail (Has.tail (Has.tail (Has.tail Has.head)))))) rfl rfl ?_
      refine RW.guardT rfl rfl rfl ?_
      refine RW.eqlSt eq26 rfl rfl rfl (by kernel_rfl) (heqB b b) ?_
      refine RW.pickB rfl rfl rfl rfl ?_
      refine RW.assign rfl rfl ?_
      refine RW.nil (EX.seq (CW.ret ?_))
      refine EX.fin1 Tryd.results5 rfl (fun wz hw => ?_)
      -- mq: done
      exact ⟨by rw [decide_eq_true rfl], hw.ext⟩
    · skip
      rw [lineR, if_neg ht] at hla
      refine CW.region ?_
      refine RW.loadBA ag26 rfl rfl (by first | exact Has.head | exact Has.tail Has.head | exact Has.tail (Has.tail Has.head) | exact Has.tail (Has.tail (Has.tail Has.head)) | exact Has.tail (Has.tail (Has.tail (Has.tail Has.head))) | exact Has.tail (Has.tail (Has.tail (Has.tail (Has.tail Has.head)))) | exact Has.tail (Has.tail (Has.tail (Has.tail (Has.tail (Has.tail Has.head)))))) rfl rfl ?_
      refine RW.call rfl ca15 rfl (fun w' hw' => hla w' (hg.ext hw'.ext).l) ?_
      refine RW.move rfl rfl ?_
      refine RW.extract rfl rfl rfl ?_
      refine RW.extract rfl rfl rfl ?_
      refine RW.assign rfl rfl ?_
      refine RW.assign rfl rfl ?_
      refine RW.nil (EX.seq (CW.seq (CW.seq ?_)))
      -- mq: region
      refine CW.region ?_
      refine RW.loadBA ag26 rfl rfl (by first | exact Has.head | exact Has.tail Has.head | exact Has.tail (Has.tail Has.head) | exact Has.tail (Has.tail (Has.tail Has.head)) | exact Has.tail (Has.tail (Has.tail (Has.tail Has.head))) | exact Has.tail (Has.tail (Has.tail (Has.tail (Has.tail Has.head)))) | exact Has.tail (Has.tail (Has.tail (Has.tail (Has.tail (Has.tail Has.head)))))) rfl rfl ?_
      refine RW.call (v := .bool false) rfl ca16 rfl (fun w' _ => by have h := refTold_c w' b; rw [show toldB b = false by simpa using ht] at h; exact h) ?_
      refine RW.not_ rfl rfl ?_
      refine RW.nil (EX.seq ?_)
      -- mq: cond
      refine CW.condT rfl (rfl) ?_
      refine CW.seq (CW.region ?_)
      refine RW.move rfl rfl ?_
      refine RW.eqlS rfl rfl rfl ?_
      refine RW.move rfl rfl ?_
      refine RW.guardT rfl rfl (decide_eq_true rfl) ?_
      refine RW.move rfl rfl ?_
      refine RW.guardT rfl rfl (decide_eq_true rfl) ?_
      refine RW.eqlI rfl rfl rfl ?_
      refine RW.pickB rfl rfl (decide_eq_true rfl) rfl ?_
      refine RW.assign rfl rfl ?_
      refine RW.nil (EX.seq (CW.ret (EX.seqR ?_)))
      refine EX.fin1 Tryd.results5 rfl (fun wz hw => ?_)
      -- mq: done
      exact ⟨rfl, hw.ext⟩
end Go.Proofs.YtnkdabjahmjdoaaDoor.Mq
