/- text: the document's Right -/
import Derived.Test.YtjmmikdbhhomiaaTx8
namespace Go.Proofs.Ytjmmikdbhhomiaa.Mq
open Go Go.RowKit Go.Proofs

section
variable {P : Program} {n : Nat} {ops : Array Oper} {Q : Post} {rest : List Oper} {l : Fr} {d : Nat} {ty : TypeId} {pos : String} {af : Array Edge} {b : World} {S : List Nat} {cs : List Chunk}
theorem RW.callAB {args : List Operand} {tys : Array TypeId} {f : FuncId} {vs : List Value} (hd : Nat.blt d n = true) (hcb : CaT P f) (hargs : evs l args = some vs)
    (hC : ∀ w, SH b S cs w → Calls P f vs.toArray w (RetA (fun v _ => IsBool v) w))
    (h : ∀ w0 w1 v, SH b S cs w0 → Ext [] w0 w1 → SH b S cs w1 → (∀ k ∈ feet cs, k < w0.heap.size) → RW P n ops Q rest ((d, .bool v) :: l) (SH w1 (feet cs) cs)) :
    RW P n ops Q (⟨some d, .call ⟨.value (.func f), args.toArray, tys⟩, ty, pos, af, none⟩ :: rest) l (SH b S cs) :=
  RW.callA (R := fun _ v _ => IsBool v) hd hcb hargs hC (fun w0 w1 v h0 he h1 hl hv => by
    obtain ⟨k, rfl⟩ := hv
    exact h w0 w1 k h0 he h1 hl)
end
theorem Right_c (w : World) (F : Nat → Prop) (A : Option Addr) (n c : Nat) (row : List CellV) (hr : Rd ECell w F A n c row) (hn : n ≤ 1000000) (hm : ∀ x ∈ row, x.more.length ≤ 100000) :
    Calls Try.prog 7 [.slice A n c].toArray w (RetA (fun v _ => ∃ b, v = .bool b ∧ (b = true → mendL row = row)) w) := by
  have hl := hr.len
  refine calls (n := 73) Try.func7 rfl Try.ntmps7 rfl ?_
  refine CW.sub (H' := SH w [] []) ?_ (Sub.refl _) (fun x hx => SH.start' _ _ hx)
  refine CW.seq (CW.region ?_)
  refine RW.assign rfl rfl ?_
  refine RW.nil (EX.seq (CW.seq (CW.seq ?_)))
  -- mq: region
  refine CW.region ?_
  refine RW.move rfl rfl ?_
  -- mq: at
  refine RW.callR rfl ca12 rfl (fun w' hw' => refMend_c w' _ A n c row (hr.ext hw'.ext (by simp)) (by omega)) ?_
  intro w0 w1 A2 n2 c2 hw0 he1 hw1 hrd2
  have hx1 : Ext [] w w1 := hw0.ext.trans0 he1
  refine RW.move rfl rfl ?_
  -- mq: at
  refine RW.call rfl ca11 rfl (fun w' hw' => Same07_c w' _ _ A2 A n2 c2 n c (mendL row) row (hrd2.ext hw'.ext (by simp)) (hr.ext (hx1.trans0 hw'.ext) (by simp))) ?_
  refine RW.not_ rfl rfl ?_
  refine RW.nil (EX.seq ?_)
  -- mq: cond
  first | refine CW.condD rfl (fun hsame => ?_) (fun hsame => ?_) | refine CW.cond rfl (fun hsame => ?_) (fun hsame => ?_)
  · skip
    refine CW.seq (CW.region ?_)
    refine RW.assign rfl rfl ?_
    refine RW.nil (EX.seq (CW.ret (EX.seqR ?_)))
    refine EX.fin1 Try.results7 rfl (fun wz hw => ?_)
    -- mq: done
    exact ⟨_, rfl, hx1.trans0 hw.ext, _, rfl, fun e => by cases e⟩
  · skip
    have hmd : mendL row = row := by
      rcases Decidable.em (mendL row = row) with h | h
      · exact h
      · rw [decide_eq_false h] at hsame; cases hsame
    refine CW.skip (EX.seq (CW.seq (CW.seq (CW.region ?_))))
    refine RW.assign rfl rfl ?_
    refine RW.nil (EX.seq (CW.block ?_))
    -- mq: loop
    refine CW.loop (ι := Nat) (fun i => [(3, .int .i64 (i : Int)), (0, .slice A n c)]) (fun _ => fun w' => Ext [] w w') (fun i => i ≤ n) (fun i => n - i) ?_ ?_
    · exact fun w' hw' => ⟨0, Nat.zero_le _, (by repeat (first | exact Sub.nil | refine Sub.cons (by rfl) ?_)), hx1.trans0 hw'.ext⟩
    · intro i hi
      refine CW.fix (fun w3 hw3 => ?_)
      refine CW.seq (CW.seq (CW.region ?_))
      refine RW.move rfl rfl ?_
      refine RW.move rfl rfl ?_
      refine RW.lenSl Try.underlying29 rfl rfl ?_
      refine RW.lss rfl rfl rfl ?_
      refine RW.nil (EX.seq ?_)
      -- mq: cond
      first | refine CW.condD rfl (fun hlt => ?_) (fun hlt => ?_) | refine CW.cond rfl (fun hlt => ?_) (fun hlt => ?_)
      · skip
        obtain ⟨y, hy⟩ : ∃ y, row[i]? = some y := ⟨row[i]'(by omega), List.getElem?_eq_getElem _⟩
        obtain ⟨ad, hA, _, hcl⟩ := hr.at_ hy
        have hym := hm y (List.mem_of_getElem? hy)
        refine CW.skip (EX.seq (CW.seq (CW.block (CW.seq ?_))))
        -- mq: region
        refine CW.region ?_
        refine RW.move rfl rfl ?_
        refine RW.move rfl rfl ?_
        refine RW.ixAddr (q := i) sl29 rfl rfl rfl (by first | rfl | assumption) (by omega) (by omega) ?_
        refine RW.loadA ag37 rfl rfl (rfl) (fun w' hw' j u hj => (hw3.trans0 hw'.ext).cell (World.block_lt_of_cell? _ _ (hcl j u hj)) (by simp) |>.trans (hcl j u hj)) ?_
        refine RW.allocA ag37 rfl (fun g4 hg4 hf4 => ?_)
        refine RW.storeA ag37 rfl rfl (by first | exact Upd.head | exact Upd.tail Upd.head | exact Upd.tail (Upd.tail Upd.head) | exact Upd.tail (Upd.tail (Upd.tail Upd.head)) | exact Upd.tail (Upd.tail (Upd.tail (Upd.tail Upd.head))) | exact Upd.tail (Upd.tail (Upd.tail (Upd.tail (Upd.tail Upd.head)))) | exact Upd.tail (Upd.tail (Upd.tail (Upd.tail (Upd.tail (Upd.tail Upd.head)))))) (by first | rfl | exact Enc.len _ _) (by repeat (first | exact Ones.nil | exact Enc.ones _ _ | refine Ones.cons rfl ?_)) (by first | exact Nat.le_of_ble_eq_true rfl | (simp only [Enc.len]; decide)) ?_
        refine RW.nil (EX.seq (CW.seq ?_))
        -- mq: region
        refine CW.region ?_
        refine RW.fieldB fl37x0 rfl rfl ?_
        refine RW.loadB1 sc21 rfl rfl (by first | exact Has.head | exact Has.tail Has.head | exact Has.tail (Has.tail Has.head) | exact Has.tail (Has.tail (Has.tail Has.head)) | exact Has.tail (Has.tail (Has.tail (Has.tail Has.head))) | exact Has.tail (Has.tail (Has.tail (Has.tail (Has.tail Has.head)))) | exact Has.tail (Has.tail (Has.tail (Has.tail (Has.tail (Has.tail Has.head)))))) rfl ?_
        -- mq: at
        refine RW.callA (R := fun _ v _ => IsInt v) rfl ca13 rfl (fun w' _ => of_c w' y.r) (fun w4 w5 v hw4 he45 hw5 hlt5 hv => ?_)
        obtain ⟨k, rfl⟩ := hv
        have hcv := hw4.cov
        have hx5 : Ext [] w w5 := hw3.trans0 (hw4.ext.trans0 he45)
        have hx5' : ∀ w', Ext (feet [blk g4 (splice zeroC.enc 0 y.enc) 37]) w5 w' → Ext [] w w' := fun w' h => hw3.trans ((hw4.ext.trans0 he45).trans h hcv) (by simp)
        refine RW.assign rfl rfl ?_
        refine RW.nil (EX.seq (CW.seq (CW.region ?_)))
        refine RW.assign rfl rfl ?_
        refine RW.nil (EX.seq (CW.seq (CW.seq (CW.region ?_))))
        refine RW.fieldB fl37x2 rfl rfl ?_
        refine RW.loadB1 sc3 rfl rfl (by first | exact Has.head | exact Has.tail Has.head | exact Has.tail (Has.tail Has.head) | exact Has.tail (Has.tail (Has.tail Has.head)) | exact Has.tail (Has.tail (Has.tail (Has.tail Has.head))) | exact Has.tail (Has.tail (Has.tail (Has.tail (Has.tail Has.head)))) | exact Has.tail (Has.tail (Has.tail (Has.tail (Has.tail (Has.tail Has.head)))))) rfl ?_
        refine RW.nil (EX.seq (CW.block (CW.seq (CW.region ?_))))
        refine RW.eqlI rfl rfl rfl ?_
        refine RW.assign rfl rfl ?_
        refine RW.nil (EX.seq ?_)
        -- mq: cond
        first | refine CW.condD rfl (fun c0 => ?_) (fun c0 => ?_) | refine CW.cond rfl (fun c0 => ?_) (fun c0 => ?_)
        · skip
          refine CW.region ?_
          refine RW.fieldB fl37x0 rfl rfl ?_
          refine RW.loadB1 sc21 rfl rfl (by first | exact Has.head | exact Has.tail Has.head | exact Has.tail (Has.tail Has.head) | exact Has.tail (Has.tail (Has.tail Has.head)) | exact Has.tail (Has.tail (Has.tail (Has.tail Has.head))) | exact Has.tail (Has.tail (Has.tail (Has.tail (Has.tail Has.head)))) | exact Has.tail (Has.tail (Has.tail (Has.tail (Has.tail (Has.tail Has.head)))))) rfl ?_
          refine RW.eqlI rfl rfl rfl ?_
          refine RW.move rfl rfl ?_
          -- mq: guard slot 32
          refine RW.casesB 32 rfl (fun a1 => ?_) (fun a1 => ?_)
          · skip
            have a1p := of_decide_eq_true a1
            refine RW.guardT rfl rfl a1 ?_
            refine RW.fieldB fl37x1 rfl rfl ?_
            refine RW.guardT rfl rfl a1 ?_
            refine RW.loadB1 sc9 rfl rfl (by first | exact Has.head | exact Has.tail Has.head | exact Has.tail (Has.tail Has.head) | exact Has.tail (Has.tail (Has.tail Has.head)) | exact Has.tail (Has.tail (Has.tail (Has.tail Has.head))) | exact Has.tail (Has.tail (Has.tail (Has.tail (Has.tail Has.head)))) | exact Has.tail (Has.tail (Has.tail (Has.tail (Has.tail (Has.tail Has.head)))))) rfl ?_
            refine RW.guardT rfl rfl a1 ?_
            refine RW.eqlS rfl rfl rfl ?_
            refine RW.pickB rfl rfl a1 rfl ?_
            refine RW.move rfl rfl ?_
            -- mq: guard slot 37
            refine RW.casesB 37 rfl (fun a2 => ?_) (fun a2 => ?_)
            · skip
              have a2p := of_decide_eq_true a2
              refine RW.guardF rfl rfl rfl a2 ?_
              refine RW.guardF rfl rfl rfl a2 ?_
              refine RW.guardF rfl rfl rfl a2 ?_
              refine RW.guardF rfl rfl rfl a2 ?_
              refine RW.guardU rfl rfl rfl ?_
              refine RW.guardU rfl rfl rfl ?_
              refine RW.guardF rfl rfl rfl a2 ?_
              refine RW.guardF rfl rfl rfl a2 ?_
              refine RW.guardU rfl rfl rfl ?_
              refine RW.guardU rfl rfl rfl ?_
              refine RW.guardU rfl rfl rfl ?_
              refine RW.guardF rfl rfl rfl a2 ?_
              refine RW.pickB rfl rfl a2 rfl ?_
              refine RW.assign rfl rfl ?_
              refine RW.nil (EX.bkN (EX.seq (CW.seq (CW.region ?_))))
              refine RW.move rfl rfl ?_
              refine RW.not_ rfl rfl ?_
              refine RW.nil (EX.seq ?_)
              -- mq: cond
              first | refine CW.condD rfl (fun hk => ?_) (fun hk => ?_) | refine CW.cond rfl (fun hk => ?_) (fun hk => ?_)
              · skip
                refine CW.seq (CW.region ?_)
                refine RW.assign rfl rfl ?_
                refine RW.nil (EX.seq (CW.ret (EX.bkR (EX.seqR (EX.lpR (EX.bkR (EX.seqR ?_)))))))
                refine EX.fin1 Try.results7 rfl (fun wz hw => ?_)
                -- mq: done
                exact ⟨_, rfl, hx5' _ hw.ext, _, rfl, fun e => by cases e⟩
              · skip
                refine CW.skip (EX.bkN (EX.seq (CW.region ?_)))
                refine RW.move rfl rfl ?_
                refine RW.add rfl rfl rfl (wrap64 (by omega) (by omega)) ?_
                refine RW.assign rfl rfl ?_
                refine RW.nil ?_
                -- mq: loopend
                exact EX.lpN (i + 1) (by omega) (by omega) (by repeat (first | exact Sub.nil | refine Sub.cons (by rfl) ?_)) (fun w' hw' => hx5' w' hw'.ext)
            · skip
              have a2p := of_decide_eq_false a2
              refine RW.guardT rfl rfl a2 ?_
              refine RW.fieldB fl37x0 rfl rfl ?_
              refine RW.guardT rfl rfl a2 ?_
              refine RW.loadB1 sc21 rfl rfl (by first | exact Has.head | exact Has.tail Has.head | exact Has.tail (Has.tail Has.head) | exact Has.tail (Has.tail (Has.tail Has.head)) | exact Has.tail (Has.tail (Has.tail (Has.tail Has.head))) | exact Has.tail (Has.tail (Has.tail (Has.tail (Has.tail Has.head)))) | exact Has.tail (Has.tail (Has.tail (Has.tail (Has.tail (Has.tail Has.head)))))) rfl ?_
              refine RW.guardT rfl rfl a2 ?_
              refine RW.neqI rfl rfl rfl ?_
              refine RW.guardT rfl rfl a2 ?_
              refine RW.move rfl rfl ?_
              -- mq: guard slot 41
              refine RW.casesB 41 rfl (fun a3 => ?_) (fun a3 => ?_)
              · skip
                have a3p := of_decide_eq_true a3
                refine RW.guardT rfl rfl a3 ?_
                refine RW.move rfl rfl ?_
                refine RW.guardT rfl rfl a3 ?_
                refine RW.eqlI rfl rfl rfl ?_
                refine RW.guardT rfl rfl a2 ?_
                refine RW.pickB rfl rfl a3 rfl ?_
                refine RW.guardT rfl rfl a2 ?_
                refine RW.move rfl rfl ?_
                -- mq: guard slot 45
                refine RW.casesB 45 rfl (fun a4 => ?_) (fun a4 => ?_)
                · skip
                  have a4p := of_decide_eq_true a4
                  refine RW.guardT rfl rfl a4 ?_
                  refine RW.fieldB fl37x1 rfl rfl ?_
                  refine RW.guardT rfl rfl a4 ?_
                  refine RW.loadB1 sc9 rfl rfl (by first | exact Has.head | exact Has.tail Has.head | exact Has.tail (Has.tail Has.head) | exact Has.tail (Has.tail (Has.tail Has.head)) | exact Has.tail (Has.tail (Has.tail (Has.tail Has.head))) | exact Has.tail (Has.tail (Has.tail (Has.tail (Has.tail Has.head)))) | exact Has.tail (Has.tail (Has.tail (Has.tail (Has.tail (Has.tail Has.head)))))) rfl ?_
                  refine RW.guardT rfl rfl a4 ?_
                  refine RW.callAB rfl ca14 rfl (fun w' _ => marks_c w' y.more hym) (fun w6 w7 b7 hw6 he67 hw7 hlt7 => ?_)
                  refine RW.guardT rfl rfl a2 ?_
                  refine RW.pickB rfl rfl a4 rfl ?_
                  refine RW.pickC rfl rfl a2 rfl ?_
                  refine RW.assign rfl rfl ?_
                  refine RW.nil (EX.bkN (EX.seq (CW.seq ?_)))
                  -- mq: region
                  have hx7 : ∀ w', Ext (feet [blk g4 (splice zeroC.enc 0 y.enc) 37]) w7 w' → Ext [] w w' := fun w' h => hx5' w' ((hw6.ext.trans0 he67).trans h (fun x hx _ => hx))
                  refine CW.region ?_
                  refine RW.move rfl rfl ?_
                  refine RW.not_ rfl rfl ?_
                  refine RW.nil (EX.seq ?_)
                  -- mq: cond
                  first | refine CW.condD rfl (fun hk => ?_) (fun hk => ?_) | refine CW.cond rfl (fun hk => ?_) (fun hk => ?_)
                  · skip
                    refine CW.seq (CW.region ?_)
                    refine RW.assign rfl rfl ?_
                    refine RW.nil (EX.seq (CW.ret (EX.bkR (EX.seqR (EX.lpR (EX.bkR (EX.seqR ?_)))))))
                    refine EX.fin1 Try.results7 rfl (fun wz hw => ?_)
                    -- mq: done
                    exact ⟨_, rfl, hx7 _ hw.ext, _, rfl, fun e => by cases e⟩
                  · skip
                    refine CW.skip (EX.bkN (EX.seq (CW.region ?_)))
                    refine RW.move rfl rfl ?_
                    refine RW.add rfl rfl rfl (wrap64 (by omega) (by omega)) ?_
                    refine RW.assign rfl rfl ?_
                    refine RW.nil ?_
                    -- mq: loopend
                    exact EX.lpN (i + 1) (by omega) (by omega) (by repeat (first | exact Sub.nil | refine Sub.cons (by rfl) ?_)) (fun w' hw' => hx7 w' hw'.ext)
                · skip
                  have a4p := of_decide_eq_false a4
                  refine RW.guardF rfl rfl rfl a4 ?_
                  refine RW.guardF rfl rfl rfl a4 ?_
                  refine RW.guardF rfl rfl rfl a4 ?_
                  refine RW.guardT rfl rfl a2 ?_
                  refine RW.pickC rfl rfl a4 rfl ?_
                  refine RW.pickC rfl rfl a2 rfl ?_
                  refine RW.assign rfl rfl ?_
                  refine RW.nil (EX.bkN (EX.seq (CW.seq (CW.region ?_))))
                  refine RW.move rfl rfl ?_
                  refine RW.not_ rfl rfl ?_
                  refine RW.nil (EX.seq ?_)
                  -- mq: cond
                  first | refine CW.condD rfl (fun hk => ?_) (fun hk => ?_) | refine CW.cond rfl (fun hk => ?_) (fun hk => ?_)
                  · skip
                    refine CW.seq (CW.region ?_)
                    refine RW.assign rfl rfl ?_
                    refine RW.nil (EX.seq (CW.ret (EX.bkR (EX.seqR (EX.lpR (EX.bkR (EX.seqR ?_)))))))
                    refine EX.fin1 Try.results7 rfl (fun wz hw => ?_)
                    -- mq: done
                    exact ⟨_, rfl, hx5' _ hw.ext, _, rfl, fun e => by cases e⟩
                  · skip
                    refine CW.skip (EX.bkN (EX.seq (CW.region ?_)))
                    refine RW.move rfl rfl ?_
                    refine RW.add rfl rfl rfl (wrap64 (by omega) (by omega)) ?_
                    refine RW.assign rfl rfl ?_
                    refine RW.nil ?_
                    -- mq: loopend
                    exact EX.lpN (i + 1) (by omega) (by omega) (by repeat (first | exact Sub.nil | refine Sub.cons (by rfl) ?_)) (fun w' hw' => hx5' w' hw'.ext)
              · skip
                have a3p := of_decide_eq_false a3
                refine RW.guardF rfl rfl rfl a3 ?_
                refine RW.guardF rfl rfl rfl a3 ?_
                refine RW.guardT rfl rfl a2 ?_
                refine RW.pickC rfl rfl a3 rfl ?_
                refine RW.guardT rfl rfl a2 ?_
                refine RW.move rfl rfl ?_
                refine RW.guardF rfl rfl rfl rfl ?_
                refine RW.guardF rfl rfl rfl rfl ?_
                refine RW.guardF rfl rfl rfl rfl ?_
                refine RW.guardT rfl rfl a2 ?_
                refine RW.pickC rfl rfl rfl rfl ?_
                refine RW.pickC rfl rfl a2 rfl ?_
                refine RW.assign rfl rfl ?_
                refine RW.nil (EX.bkN (EX.seq (CW.seq (CW.region ?_))))
                refine RW.move rfl rfl ?_
                refine RW.not_ rfl rfl ?_
                refine RW.nil (EX.seq ?_)
                -- mq: cond
                first | refine CW.condD rfl (fun hk => ?_) (fun hk => ?_) | refine CW.cond rfl (fun hk => ?_) (fun hk => ?_)
                · skip
                  refine CW.seq (CW.region ?_)
                  refine RW.assign rfl rfl ?_
                  refine RW.nil (EX.seq (CW.ret (EX.bkR (EX.seqR (EX.lpR (EX.bkR (EX.seqR ?_)))))))
                  refine EX.fin1 Try.results7 rfl (fun wz hw => ?_)
                  -- mq: done
                  exact ⟨_, rfl, hx5' _ hw.ext, _, rfl, fun e => by cases e⟩
                · skip
                  refine CW.skip (EX.bkN (EX.seq (CW.region ?_)))
                  refine RW.move rfl rfl ?_
                  refine RW.add rfl rfl rfl (wrap64 (by omega) (by omega)) ?_
                  refine RW.assign rfl rfl ?_
                  refine RW.nil ?_
                  -- mq: loopend
                  exact EX.lpN (i + 1) (by omega) (by omega) (by repeat (first | exact Sub.nil | refine Sub.cons (by rfl) ?_)) (fun w' hw' => hx5' w' hw'.ext)
          · skip
            have a1p := of_decide_eq_false a1
            refine RW.guardF rfl rfl rfl a1 ?_
            refine RW.guardF rfl rfl rfl a1 ?_
            refine RW.guardF rfl rfl rfl a1 ?_
            refine RW.pickC rfl rfl a1 rfl ?_
            refine RW.move rfl rfl ?_
            refine RW.guardT rfl rfl rfl ?_
            refine RW.fieldB fl37x0 rfl rfl ?_
            refine RW.guardT rfl rfl rfl ?_
            refine RW.loadB1 sc21 rfl rfl (by first | exact Has.head | exact Has.tail Has.head | exact Has.tail (Has.tail Has.head) | exact Has.tail (Has.tail (Has.tail Has.head)) | exact Has.tail (Has.tail (Has.tail (Has.tail Has.head))) | exact Has.tail (Has.tail (Has.tail (Has.tail (Has.tail Has.head)))) | exact Has.tail (Has.tail (Has.tail (Has.tail (Has.tail (Has.tail Has.head)))))) rfl ?_
            refine RW.guardT rfl rfl rfl ?_
            refine RW.neqI rfl rfl rfl ?_
            refine RW.guardT rfl rfl rfl ?_
            refine RW.move rfl rfl ?_
            -- mq: guard slot 41
            refine RW.casesB 41 rfl (fun a3 => ?_) (fun a3 => ?_)
            · skip
              have a3p := of_decide_eq_true a3
              refine RW.guardT rfl rfl a3 ?_
              refine RW.move rfl rfl ?_
              refine RW.guardT rfl rfl a3 ?_
              refine RW.eqlI rfl rfl rfl ?_
              refine RW.guardT rfl rfl rfl ?_
              refine RW.pickB rfl rfl a3 rfl ?_
              refine RW.guardT rfl rfl rfl ?_
              refine RW.move rfl rfl ?_
              -- mq: guard slot 45
              refine RW.casesB 45 rfl (fun a4 => ?_) (fun a4 => ?_)
              · skip
                have a4p := of_decide_eq_true a4
                refine RW.guardT rfl rfl a4 ?_
                refine RW.fieldB fl37x1 rfl rfl ?_
                refine RW.guardT rfl rfl a4 ?_
                refine RW.loadB1 sc9 rfl rfl (by first | exact Has.head | exact Has.tail Has.head | exact Has.tail (Has.tail Has.head) | exact Has.tail (Has.tail (Has.tail Has.head)) | exact Has.tail (Has.tail (Has.tail (Has.tail Has.head))) | exact Has.tail (Has.tail (Has.tail (Has.tail (Has.tail Has.head)))) | exact Has.tail (Has.tail (Has.tail (Has.tail (Has.tail (Has.tail Has.head)))))) rfl ?_
                refine RW.guardT rfl rfl a4 ?_
                refine RW.callAB rfl ca14 rfl (fun w' _ => marks_c w' y.more hym) (fun w6 w7 b7 hw6 he67 hw7 hlt7 => ?_)
                refine RW.guardT rfl rfl rfl ?_
                refine RW.pickB rfl rfl a4 rfl ?_
                refine RW.pickC rfl rfl rfl rfl ?_
                refine RW.assign rfl rfl ?_
                refine RW.nil (EX.bkN (EX.seq (CW.seq ?_)))
                -- mq: region
                have hx7 : ∀ w', Ext (feet [blk g4 (splice zeroC.enc 0 y.enc) 37]) w7 w' → Ext [] w w' := fun w' h => hx5' w' ((hw6.ext.trans0 he67).trans h (fun x hx _ => hx))
                refine CW.region ?_
                refine RW.move rfl rfl ?_
                refine RW.not_ rfl rfl ?_
                refine RW.nil (EX.seq ?_)
                -- mq: cond
                first | refine CW.condD rfl (fun hk => ?_) (fun hk => ?_) | refine CW.cond rfl (fun hk => ?_) (fun hk => ?_)
                · skip
                  refine CW.seq (CW.region ?_)
                  refine RW.assign rfl rfl ?_
                  refine RW.nil (EX.seq (CW.ret (EX.bkR (EX.seqR (EX.lpR (EX.bkR (EX.seqR ?_)))))))
                  refine EX.fin1 Try.results7 rfl (fun wz hw => ?_)
                  -- mq: done
                  exact ⟨_, rfl, hx7 _ hw.ext, _, rfl, fun e => by cases e⟩
                · skip
                  refine CW.skip (EX.bkN (EX.seq (CW.region ?_)))
                  refine RW.move rfl rfl ?_
                  refine RW.add rfl rfl rfl (wrap64 (by omega) (by omega)) ?_
                  refine RW.assign rfl rfl ?_
                  refine RW.nil ?_
                  -- mq: loopend
                  exact EX.lpN (i + 1) (by omega) (by omega) (by repeat (first | exact Sub.nil | refine Sub.cons (by rfl) ?_)) (fun w' hw' => hx7 w' hw'.ext)
              · skip
                have a4p := of_decide_eq_false a4
                refine RW.guardF rfl rfl rfl a4 ?_
                refine RW.guardF rfl rfl rfl a4 ?_
                refine RW.guardF rfl rfl rfl a4 ?_
                refine RW.guardT rfl rfl rfl ?_
                refine RW.pickC rfl rfl a4 rfl ?_
                refine RW.pickC rfl rfl rfl rfl ?_
                refine RW.assign rfl rfl ?_
                refine RW.nil (EX.bkN (EX.seq (CW.seq (CW.region ?_))))
                refine RW.move rfl rfl ?_
                refine RW.not_ rfl rfl ?_
                refine RW.nil (EX.seq ?_)
                -- mq: cond
                first | refine CW.condD rfl (fun hk => ?_) (fun hk => ?_) | refine CW.cond rfl (fun hk => ?_) (fun hk => ?_)
                · skip
                  refine CW.seq (CW.region ?_)
                  refine RW.assign rfl rfl ?_
                  refine RW.nil (EX.seq (CW.ret (EX.bkR (EX.seqR (EX.lpR (EX.bkR (EX.seqR ?_)))))))
                  refine EX.fin1 Try.results7 rfl (fun wz hw => ?_)
                  -- mq: done
                  exact ⟨_, rfl, hx5' _ hw.ext, _, rfl, fun e => by cases e⟩
                · skip
                  refine CW.skip (EX.bkN (EX.seq (CW.region ?_)))
                  refine RW.move rfl rfl ?_
                  refine RW.add rfl rfl rfl (wrap64 (by omega) (by omega)) ?_
                  refine RW.assign rfl rfl ?_
                  refine RW.nil ?_
                  -- mq: loopend
                  exact EX.lpN (i + 1) (by omega) (by omega) (by repeat (first | exact Sub.nil | refine Sub.cons (by rfl) ?_)) (fun w' hw' => hx5' w' hw'.ext)
            · skip
              have a3p := of_decide_eq_false a3
              refine RW.guardF rfl rfl rfl a3 ?_
              refine RW.guardF rfl rfl rfl a3 ?_
              refine RW.guardT rfl rfl rfl ?_
              refine RW.pickC rfl rfl a3 rfl ?_
              refine RW.guardT rfl rfl rfl ?_
              refine RW.move rfl rfl ?_
              refine RW.guardF rfl rfl rfl rfl ?_
              refine RW.guardF rfl rfl rfl rfl ?_
              refine RW.guardF rfl rfl rfl rfl ?_
              refine RW.guardT rfl rfl rfl ?_
              refine RW.pickC rfl rfl rfl rfl ?_
              refine RW.pickC rfl rfl rfl rfl ?_
              refine RW.assign rfl rfl ?_
              refine RW.nil (EX.bkN (EX.seq (CW.seq (CW.region ?_))))
              refine RW.move rfl rfl ?_
              refine RW.not_ rfl rfl ?_
              refine RW.nil (EX.seq ?_)
              -- mq: cond
              first | refine CW.condD rfl (fun hk => ?_) (fun hk => ?_) | refine CW.cond rfl (fun hk => ?_) (fun hk => ?_)
              · skip
                refine CW.seq (CW.region ?_)
                refine RW.assign rfl rfl ?_
                refine RW.nil (EX.seq (CW.ret (EX.bkR (EX.seqR (EX.lpR (EX.bkR (EX.seqR ?_)))))))
                refine EX.fin1 Try.results7 rfl (fun wz hw => ?_)
                -- mq: done
                exact ⟨_, rfl, hx5' _ hw.ext, _, rfl, fun e => by cases e⟩
              · skip
                refine CW.skip (EX.bkN (EX.seq (CW.region ?_)))
                refine RW.move rfl rfl ?_
                refine RW.add rfl rfl rfl (wrap64 (by omega) (by omega)) ?_
                refine RW.assign rfl rfl ?_
                refine RW.nil ?_
                -- mq: loopend
                exact EX.lpN (i + 1) (by omega) (by omega) (by repeat (first | exact Sub.nil | refine Sub.cons (by rfl) ?_)) (fun w' hw' => hx5' w' hw'.ext)
        · skip
          refine CW.seq (CW.seq (CW.region ?_))
          refine RW.eqlI rfl rfl rfl ?_
          refine RW.assign rfl rfl ?_
          refine RW.nil (EX.seq ?_)
          -- mq: cond
          first | refine CW.condD rfl (fun c1 => ?_) (fun c1 => ?_) | refine CW.cond rfl (fun c1 => ?_) (fun c1 => ?_)
          · skip
            refine CW.skip (EX.seq ?_)
            -- mq: cond
            first | refine CW.condD rfl (fun c1b => ?_) (fun c1b => ?_) | refine CW.cond rfl (fun c1b => ?_) (fun c1b => ?_)
            · skip
              refine CW.region ?_
              refine RW.move rfl rfl ?_
              refine RW.eqlI rfl rfl rfl ?_
              refine RW.move rfl rfl ?_
              -- mq: guard slot 56
              refine RW.casesB 56 rfl (fun a1 => ?_) (fun a1 => ?_)
              · skip
                have a1p := of_decide_eq_true a1
                refine RW.guardT rfl rfl a1 ?_
                refine RW.fieldB fl37x1 rfl rfl ?_
                refine RW.guardT rfl rfl a1 ?_
                refine RW.loadB1 sc9 rfl rfl (by first | exact Has.head | exact Has.tail Has.head | exact Has.tail (Has.tail Has.head) | exact Has.tail (Has.tail (Has.tail Has.head)) | exact Has.tail (Has.tail (Has.tail (Has.tail Has.head))) | exact Has.tail (Has.tail (Has.tail (Has.tail (Has.tail Has.head)))) | exact Has.tail (Has.tail (Has.tail (Has.tail (Has.tail (Has.tail Has.head)))))) rfl ?_
                refine RW.guardT rfl rfl a1 ?_
                refine RW.callAB rfl ca14 rfl (fun w' _ => marks_c w' y.more hym) (fun w6 w7 b7 hw6 he67 hw7 hlt7 => ?_)
                refine RW.pickB rfl rfl a1 rfl ?_
                refine RW.assign rfl rfl ?_
                refine RW.nil (EX.bkN (EX.seq (CW.seq ?_)))
                -- mq: region
                have hx7 : ∀ w', Ext (feet [blk g4 (splice zeroC.enc 0 y.enc) 37]) w7 w' → Ext [] w w' := fun w' h => hx5' w' ((hw6.ext.trans0 he67).trans h (fun x hx _ => hx))
                refine CW.region ?_
                refine RW.move rfl rfl ?_
                refine RW.not_ rfl rfl ?_
                refine RW.nil (EX.seq ?_)
                -- mq: cond
                first | refine CW.condD rfl (fun hk => ?_) (fun hk => ?_) | refine CW.cond rfl (fun hk => ?_) (fun hk => ?_)
                · skip
                  refine CW.seq (CW.region ?_)
                  refine RW.assign rfl rfl ?_
                  refine RW.nil (EX.seq (CW.ret (EX.bkR (EX.seqR (EX.lpR (EX.bkR (EX.seqR ?_)))))))
                  refine EX.fin1 Try.results7 rfl (fun wz hw => ?_)
                  -- mq: done
                  exact ⟨_, rfl, hx7 _ hw.ext, _, rfl, fun e => by cases e⟩
                · skip
                  refine CW.skip (EX.bkN (EX.seq (CW.region ?_)))
                  refine RW.move rfl rfl ?_
                  refine RW.add rfl rfl rfl (wrap64 (by omega) (by omega)) ?_
                  refine RW.assign rfl rfl ?_
                  refine RW.nil ?_
                  -- mq: loopend
                  exact EX.lpN (i + 1) (by omega) (by omega) (by repeat (first | exact Sub.nil | refine Sub.cons (by rfl) ?_)) (fun w' hw' => hx7 w' hw'.ext)
              · skip
                have a1p := of_decide_eq_false a1
                refine RW.guardF rfl rfl rfl a1 ?_
                refine RW.guardF rfl rfl rfl a1 ?_
                refine RW.guardF rfl rfl rfl a1 ?_
                refine RW.pickC rfl rfl a1 rfl ?_
                refine RW.assign rfl rfl ?_
                refine RW.nil (EX.bkN (EX.seq (CW.seq (CW.region ?_))))
                refine RW.move rfl rfl ?_
                refine RW.not_ rfl rfl ?_
                refine RW.nil (EX.seq ?_)
                -- mq: cond
                first | refine CW.condD rfl (fun hk => ?_) (fun hk => ?_) | refine CW.cond rfl (fun hk => ?_) (fun hk => ?_)
                · skip
                  refine CW.seq (CW.region ?_)
                  refine RW.assign rfl rfl ?_
                  refine RW.nil (EX.seq (CW.ret (EX.bkR (EX.seqR (EX.lpR (EX.bkR (EX.seqR ?_)))))))
                  refine EX.fin1 Try.results7 rfl (fun wz hw => ?_)
                  -- mq: done
                  exact ⟨_, rfl, hx5' _ hw.ext, _, rfl, fun e => by cases e⟩
                · skip
                  refine CW.skip (EX.bkN (EX.seq (CW.region ?_)))
                  refine RW.move rfl rfl ?_
                  refine RW.add rfl rfl rfl (wrap64 (by omega) (by omega)) ?_
                  refine RW.assign rfl rfl ?_
                  refine RW.nil ?_
                  -- mq: loopend
                  exact EX.lpN (i + 1) (by omega) (by omega) (by repeat (first | exact Sub.nil | refine Sub.cons (by rfl) ?_)) (fun w' hw' => hx5' w' hw'.ext)
            · skip
              exact absurd c1 c1b
          · skip
            refine CW.region ?_
            refine RW.eqlI rfl rfl rfl ?_
            refine RW.assign rfl rfl ?_
            refine RW.nil (EX.seq ?_)
            -- mq: cond
            first | refine CW.condD rfl (fun c2 => ?_) (fun c2 => ?_) | refine CW.cond rfl (fun c2 => ?_) (fun c2 => ?_)
            · skip
              refine CW.region ?_
              refine RW.move rfl rfl ?_
              refine RW.eqlI rfl rfl rfl ?_
              refine RW.move rfl rfl ?_
              -- mq: guard slot 56
              refine RW.casesB 56 rfl (fun a1 => ?_) (fun a1 => ?_)
              · skip
                have a1p := of_decide_eq_true a1
                refine RW.guardT rfl rfl a1 ?_
                refine RW.fieldB fl37x1 rfl rfl ?_
                refine RW.guardT rfl rfl a1 ?_
                refine RW.loadB1 sc9 rfl rfl (by first | exact Has.head | exact Has.tail Has.head | exact Has.tail (Has.tail Has.head) | exact Has.tail (Has.tail (Has.tail Has.head)) | exact Has.tail (Has.tail (Has.tail (Has.tail Has.head))) | exact Has.tail (Has.tail (Has.tail (Has.tail (Has.tail Has.head)))) | exact Has.tail (Has.tail (Has.tail (Has.tail (Has.tail (Has.tail Has.head)))))) rfl ?_
                refine RW.guardT rfl rfl a1 ?_
                refine RW.callAB rfl ca14 rfl (fun w' _ => marks_c w' y.more hym) (fun w6 w7 b7 hw6 he67 hw7 hlt7 => ?_)
                refine RW.pickB rfl rfl a1 rfl ?_
                refine RW.assign rfl rfl ?_
                refine RW.nil (EX.bkN (EX.seq (CW.seq ?_)))
                -- mq: region
                have hx7 : ∀ w', Ext (feet [blk g4 (splice zeroC.enc 0 y.enc) 37]) w7 w' → Ext [] w w' := fun w' h => hx5' w' ((hw6.ext.trans0 he67).trans h (fun x hx _ => hx))
                refine CW.region ?_
                refine RW.move rfl rfl ?_
                refine RW.not_ rfl rfl ?_
                refine RW.nil (EX.seq ?_)
                -- mq: cond
                first | refine CW.condD rfl (fun hk => ?_) (fun hk => ?_) | refine CW.cond rfl (fun hk => ?_) (fun hk => ?_)
                · skip
                  refine CW.seq (CW.region ?_)
                  refine RW.assign rfl rfl ?_
                  refine RW.nil (EX.seq (CW.ret (EX.bkR (EX.seqR (EX.lpR (EX.bkR (EX.seqR ?_)))))))
                  refine EX.fin1 Try.results7 rfl (fun wz hw => ?_)
                  -- mq: done
                  exact ⟨_, rfl, hx7 _ hw.ext, _, rfl, fun e => by cases e⟩
                · skip
                  refine CW.skip (EX.bkN (EX.seq (CW.region ?_)))
                  refine RW.move rfl rfl ?_
                  refine RW.add rfl rfl rfl (wrap64 (by omega) (by omega)) ?_
                  refine RW.assign rfl rfl ?_
                  refine RW.nil ?_
                  -- mq: loopend
                  exact EX.lpN (i + 1) (by omega) (by omega) (by repeat (first | exact Sub.nil | refine Sub.cons (by rfl) ?_)) (fun w' hw' => hx7 w' hw'.ext)
              · skip
                have a1p := of_decide_eq_false a1
                refine RW.guardF rfl rfl rfl a1 ?_
                refine RW.guardF rfl rfl rfl a1 ?_
                refine RW.guardF rfl rfl rfl a1 ?_
                refine RW.pickC rfl rfl a1 rfl ?_
                refine RW.assign rfl rfl ?_
                refine RW.nil (EX.bkN (EX.seq (CW.seq (CW.region ?_))))
                refine RW.move rfl rfl ?_
                refine RW.not_ rfl rfl ?_
                refine RW.nil (EX.seq ?_)
                -- mq: cond
                first | refine CW.condD rfl (fun hk => ?_) (fun hk => ?_) | refine CW.cond rfl (fun hk => ?_) (fun hk => ?_)
                · skip
                  refine CW.seq (CW.region ?_)
                  refine RW.assign rfl rfl ?_
                  refine RW.nil (EX.seq (CW.ret (EX.bkR (EX.seqR (EX.lpR (EX.bkR (EX.seqR ?_)))))))
                  refine EX.fin1 Try.results7 rfl (fun wz hw => ?_)
                  -- mq: done
                  exact ⟨_, rfl, hx5' _ hw.ext, _, rfl, fun e => by cases e⟩
                · skip
                  refine CW.skip (EX.bkN (EX.seq (CW.region ?_)))
                  refine RW.move rfl rfl ?_
                  refine RW.add rfl rfl rfl (wrap64 (by omega) (by omega)) ?_
                  refine RW.assign rfl rfl ?_
                  refine RW.nil ?_
                  -- mq: loopend
                  exact EX.lpN (i + 1) (by omega) (by omega) (by repeat (first | exact Sub.nil | refine Sub.cons (by rfl) ?_)) (fun w' hw' => hx5' w' hw'.ext)
            · skip
              refine CW.seq (CW.region ?_)
              refine RW.eqlI rfl rfl rfl ?_
              refine RW.assign rfl rfl ?_
              refine RW.nil (EX.seq ?_)
              -- mq: cond
              first | refine CW.condD rfl (fun c3 => ?_) (fun c3 => ?_) | refine CW.cond rfl (fun c3 => ?_) (fun c3 => ?_)
              · skip
                refine CW.region ?_
                refine RW.fieldB fl37x0 rfl rfl ?_
                refine RW.loadB1 sc21 rfl rfl (by first | exact Has.head | exact Has.tail Has.head | exact Has.tail (Has.tail Has.head) | exact Has.tail (Has.tail (Has.tail Has.head)) | exact Has.tail (Has.tail (Has.tail (Has.tail Has.head))) | exact Has.tail (Has.tail (Has.tail (Has.tail (Has.tail Has.head)))) | exact Has.tail (Has.tail (Has.tail (Has.tail (Has.tail (Has.tail Has.head)))))) rfl ?_
                refine RW.eqlI rfl rfl rfl ?_
                refine RW.move rfl rfl ?_
                -- mq: guard slot 66
                refine RW.casesB 66 rfl (fun a1 => ?_) (fun a1 => ?_)
                · skip
                  have a1p := of_decide_eq_true a1
                  refine RW.guardT rfl rfl a1 ?_
                  refine RW.fieldB fl37x1 rfl rfl ?_
                  refine RW.guardT rfl rfl a1 ?_
                  refine RW.loadB1 sc9 rfl rfl (by first | exact Has.head | exact Has.tail Has.head | exact Has.tail (Has.tail Has.head) | exact Has.tail (Has.tail (Has.tail Has.head)) | exact Has.tail (Has.tail (Has.tail (Has.tail Has.head))) | exact Has.tail (Has.tail (Has.tail (Has.tail (Has.tail Has.head)))) | exact Has.tail (Has.tail (Has.tail (Has.tail (Has.tail (Has.tail Has.head)))))) rfl ?_
                  refine RW.guardT rfl rfl a1 ?_
                  refine RW.eqlS rfl rfl rfl ?_
                  refine RW.pickB rfl rfl a1 rfl ?_
                  refine RW.assign rfl rfl ?_
                  refine RW.nil (EX.bkN (EX.seq (CW.seq (CW.region ?_))))
                  refine RW.move rfl rfl ?_
                  refine RW.not_ rfl rfl ?_
                  refine RW.nil (EX.seq ?_)
                  -- mq: cond
                  first | refine CW.condD rfl (fun hk => ?_) (fun hk => ?_) | refine CW.cond rfl (fun hk => ?_) (fun hk => ?_)
                  · skip
                    refine CW.seq (CW.region ?_)
                    refine RW.assign rfl rfl ?_
                    refine RW.nil (EX.seq (CW.ret (EX.bkR (EX.seqR (EX.lpR (EX.bkR (EX.seqR ?_)))))))
                    refine EX.fin1 Try.results7 rfl (fun wz hw => ?_)
                    -- mq: done
                    exact ⟨_, rfl, hx5' _ hw.ext, _, rfl, fun e => by cases e⟩
                  · skip
                    refine CW.skip (EX.bkN (EX.seq (CW.region ?_)))
                    refine RW.move rfl rfl ?_
                    refine RW.add rfl rfl rfl (wrap64 (by omega) (by omega)) ?_
                    refine RW.assign rfl rfl ?_
                    refine RW.nil ?_
                    -- mq: loopend
                    exact EX.lpN (i + 1) (by omega) (by omega) (by repeat (first | exact Sub.nil | refine Sub.cons (by rfl) ?_)) (fun w' hw' => hx5' w' hw'.ext)
                · skip
                  have a1p := of_decide_eq_false a1
                  refine RW.guardF rfl rfl rfl a1 ?_
                  refine RW.guardF rfl rfl rfl a1 ?_
                  refine RW.guardF rfl rfl rfl a1 ?_
                  refine RW.pickC rfl rfl a1 rfl ?_
                  refine RW.assign rfl rfl ?_
                  refine RW.nil (EX.bkN (EX.seq (CW.seq (CW.region ?_))))
                  refine RW.move rfl rfl ?_
                  refine RW.not_ rfl rfl ?_
                  refine RW.nil (EX.seq ?_)
                  -- mq: cond
                  first | refine CW.condD rfl (fun hk => ?_) (fun hk => ?_) | refine CW.cond rfl (fun hk => ?_) (fun hk => ?_)
                  · skip
                    refine CW.seq (CW.region ?_)
                    refine RW.assign rfl rfl ?_
                    refine RW.nil (EX.seq (CW.ret (EX.bkR (EX.seqR (EX.lpR (EX.bkR (EX.seqR ?_)))))))
                    refine EX.fin1 Try.results7 rfl (fun wz hw => ?_)
                    -- mq: done
                    exact ⟨_, rfl, hx5' _ hw.ext, _, rfl, fun e => by cases e⟩
                  · skip
                    refine CW.skip (EX.bkN (EX.seq (CW.region ?_)))
                    refine RW.move rfl rfl ?_
                    refine RW.add rfl rfl rfl (wrap64 (by omega) (by omega)) ?_
                    refine RW.assign rfl rfl ?_
                    refine RW.nil ?_
                    -- mq: loopend
                    exact EX.lpN (i + 1) (by omega) (by omega) (by repeat (first | exact Sub.nil | refine Sub.cons (by rfl) ?_)) (fun w' hw' => hx5' w' hw'.ext)
              · skip
                refine CW.skip (EX.bkN (EX.seq (CW.seq (CW.region ?_))))
                refine RW.move rfl rfl ?_
                refine RW.not_ rfl rfl ?_
                refine RW.nil (EX.seq ?_)
                -- mq: cond
                first | refine CW.condD rfl (fun hk => ?_) (fun hk => ?_) | refine CW.cond rfl (fun hk => ?_) (fun hk => ?_)
                · skip
                  refine CW.seq (CW.region ?_)
                  refine RW.assign rfl rfl ?_
                  refine RW.nil (EX.seq (CW.ret (EX.bkR (EX.seqR (EX.lpR (EX.bkR (EX.seqR ?_)))))))
                  refine EX.fin1 Try.results7 rfl (fun wz hw => ?_)
                  -- mq: done
                  exact ⟨_, rfl, hx5' _ hw.ext, _, rfl, fun e => by cases e⟩
                · skip
                  refine CW.skip (EX.bkN (EX.seq (CW.region ?_)))
                  refine RW.move rfl rfl ?_
                  refine RW.add rfl rfl rfl (wrap64 (by omega) (by omega)) ?_
                  refine RW.assign rfl rfl ?_
                  refine RW.nil ?_
                  -- mq: loopend
                  exact EX.lpN (i + 1) (by omega) (by omega) (by repeat (first | exact Sub.nil | refine Sub.cons (by rfl) ?_)) (fun w' hw' => hx5' w' hw'.ext)
      · skip
        refine CW.exit (EX.seqE (EX.lpE (EX.bkE (EX.seq (CW.seq (CW.region ?_))))))
        refine RW.assign rfl rfl ?_
        refine RW.nil (EX.seq (CW.ret ?_))
        refine EX.fin1 Try.results7 rfl (fun wz hw => ?_)
        -- mq: done
        exact ⟨_, rfl, hw3.trans0 hw.ext, _, rfl, fun _ => hmd⟩
end Go.Proofs.Ytjmmikdbhhomiaa.Mq
