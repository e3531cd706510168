/- attributes: walks of inside -/
import Derived.Test.YtojfodeienchfaaDoorAt6
namespace Go.Proofs.YtojfodeienchfaaDoor.Mq
open Go Go.RowKit Go.Proofs

def insF (g : List Int) : Option (Int × Int) := if g[1]? = some 5 ∧ g.length = 3 then b3 (g.drop 2) else if g[1]? = some 2 ∧ (g.length = 5 ∨ g.length = 6) then b3 (g.drop (g.length - 3)) else none
theorem inside_c (w : World) (F : Nat → Prop) (A : Option Addr) (n c : Nat) (g : List Int) (hr : Rd EInt w F A n c g) (hn : n ≤ 1000000) (h2 : 2 ≤ n) :
    Calls Tryd.prog 24 [.slice A n c].toArray w (fun e w' => e = .returned (.tuple (tupC (insF g)).toArray) ∧ Ext [] w w') := by
  have hl := hr.len
  obtain ⟨x, hx⟩ : ∃ x, g[1]? = some x := ⟨g[1]'(by omega), List.getElem?_eq_getElem _⟩
  obtain ⟨yd, hB, _, hycell⟩ := hr.at_ hx
  have hno : (¬ (x = 5 ∧ n = 3)) → (¬ (x = 2 ∧ (n = 5 ∨ n = 6))) → insF g = none := fun h3 h4 => by
    rw [insF, hx, if_neg (fun h => h3 ⟨by simpa using h.1, by omega⟩), if_neg (fun h => h4 ⟨by simpa using h.1, by omega⟩)]
  have hcap := hr.cap
  have hmax := hr.max
  refine calls (n := 45) Tryd.func24 rfl Tryd.ntmps24 rfl ?_
  refine CW.sub (H' := SH w [] []) ?_ (Sub.refl _) (fun x hx => SH.start' _ _ hx)
  refine CW.seq (CW.region ?_)
  refine RW.allocA ag23 rfl (fun g2 hg2 hf2 => ?_)
  refine RW.assign rfl rfl ?_
  refine RW.nil (EX.seq (CW.seq (CW.block (CW.seq ?_))))
  -- mq: region
  refine CW.join ([(4, .bool (decide (x = 5 ∧ n = 3))), (0, .slice A n c), (2, .pointer (some ⟨g2, 0, none⟩))]) (SH w [] [blk g2 [.int .i64 0, .int .i64 0] 23]) ?_ ?_
  · skip
    refine CW.region ?_
    refine RW.move rfl rfl ?_
    refine RW.ixAddr (q := 1) sl40 rfl rfl rfl hB (by omega) (by omega) ?_
    refine RW.load1 sc3 rfl rfl (fun w' hw' => hw'.base_cell (hycell 0 _ rfl) (by simp [feet])) ?_
    refine RW.eqlI rfl rfl rfl ?_
    refine RW.move rfl rfl ?_
    -- mq: guard slot 9
    refine RW.casesB 9 rfl (fun h1 => ?_) (fun h1 => ?_)
    · skip
      have h1p := of_decide_eq_true h1
      refine RW.guardT rfl rfl h1 ?_
      refine RW.move rfl rfl ?_
      refine RW.guardT rfl rfl h1 ?_
      refine RW.lenSl Tryd.underlying40 rfl rfl ?_
      refine RW.guardT rfl rfl h1 ?_
      refine RW.eqlI rfl rfl rfl ?_
      refine RW.pickB rfl rfl h1 rfl ?_
      refine RW.assign rfl rfl ?_
      refine RW.nil ?_
      -- mq: joinend
      exact EX.jn (Sub.cons (congrArg (fun x => some (Value.bool x)) (by rw [decide_eq_decide]; omega)) (by repeat (first | exact Sub.nil | refine Sub.cons (by rfl) ?_))) (fun _ h => h)
    · skip
      have h1p := of_decide_eq_false h1
      refine RW.guardF rfl rfl rfl h1 ?_
      refine RW.guardF rfl rfl rfl h1 ?_
      refine RW.guardF rfl rfl rfl h1 ?_
      refine RW.pickC rfl rfl h1 rfl ?_
      refine RW.assign rfl rfl ?_
      refine RW.nil ?_
      -- mq: joinend
      exact EX.jn (Sub.cons (congrArg (fun x => some (Value.bool x)) (by rw [eq_comm, decide_eq_false_iff_not]; omega)) (by repeat (first | exact Sub.nil | refine Sub.cons (by rfl) ?_))) (fun _ h => h)
  · skip
    refine EX.seq ?_
    -- mq: cond
    first | refine CW.condD rfl (fun h3 => ?_) (fun h3 => ?_) | refine CW.cond rfl (fun h3 => ?_) (fun h3 => ?_)
    · skip
      obtain ⟨y, hy⟩ : ∃ y, g[2]? = some y := ⟨g[2]'(by omega), List.getElem?_eq_getElem _⟩
      obtain ⟨yd2, hB2, _, hycell2⟩ := hr.at_ hy
      have hd : g.drop 2 = [y] := by
        refine List.ext_getElem? fun k => ?_
        rw [List.getElem?_drop]
        cases k with
        | zero => simpa using hy
        | succ k => rw [List.getElem?_eq_none (by omega)]; simp
      refine CW.seq (CW.region ?_)
      refine RW.move rfl rfl ?_
      refine RW.ixAddr (q := 2) sl40 rfl rfl rfl hB2 (by omega) (by omega) ?_
      refine RW.load1 sc3 rfl rfl (fun w' hw' => hw'.base_cell (hycell2 0 _ rfl) (by simp [feet])) ?_
      refine RW.buildSlc sl40 rfl rfl rfl rfl (fun g17 hg17 hf17 => ?_)
      -- mq: op 4: ('Op.call', ('Call.mk', ('Callee.value', ('Operand.func', '34')), ('arr', ('Operand.tmp', '17')), ('arr', '40'))) -> slot 18 ("attr.go:67")
      refine RW.call rfl ca34 rfl (fun w' hw' => byte3_c w' _ _ _ _ [y] (Rd.of_blk (E := EInt) hw' Has.head rfl (by decide)) (by decide)) ?_
      refine RW.extract rfl rfl rfl ?_
      refine RW.extract rfl rfl rfl ?_
      refine RW.storeA ag23 rfl rfl (by first | exact Upd.head | exact Upd.tail Upd.head | exact Upd.tail (Upd.tail Upd.head) | exact Upd.tail (Upd.tail (Upd.tail Upd.head)) | exact Upd.tail (Upd.tail (Upd.tail (Upd.tail Upd.head))) | exact Upd.tail (Upd.tail (Upd.tail (Upd.tail (Upd.tail Upd.head)))) | exact Upd.tail (Upd.tail (Upd.tail (Upd.tail (Upd.tail (Upd.tail Upd.head)))))) (by first | rfl | exact Enc.len _ _) (by repeat (first | exact Ones.nil | exact Enc.ones _ _ | refine Ones.cons rfl ?_)) (by first | exact Nat.le_of_ble_eq_true rfl | (simp only [Enc.len]; decide)) ?_
      refine RW.assign rfl rfl ?_
      refine RW.nil (EX.seq (CW.ret (EX.bkR (EX.seqR ?_))))
      refine EX.fin2' Tryd.results24 (RV.cellA ag23 rfl (by first | exact Has.head | exact Has.tail Has.head | exact Has.tail (Has.tail Has.head) | exact Has.tail (Has.tail (Has.tail Has.head)) | exact Has.tail (Has.tail (Has.tail (Has.tail Has.head))) | exact Has.tail (Has.tail (Has.tail (Has.tail (Has.tail Has.head)))) | exact Has.tail (Has.tail (Has.tail (Has.tail (Has.tail (Has.tail Has.head)))))) rfl rfl) (RV.tmp rfl) (fun wz hw => ?_)
      -- mq: done
      refine ⟨?_, hw.ext⟩
      rw [insF, hx, if_pos ⟨by rw [h3.1], by omega⟩, hd]
      rfl
    · skip
      refine CW.seq ?_
      -- mq: region
      refine CW.join ([(21, .bool (decide (x = 2 ∧ (n = 5 ∨ n = 6)))), (0, .slice A n c), (2, .pointer (some ⟨g2, 0, none⟩))]) (SH w [] [blk g2 [.int .i64 0, .int .i64 0] 23]) ?_ ?_
      · skip
        refine CW.region ?_
        refine RW.move rfl rfl ?_
        refine RW.ixAddr (q := 1) sl40 rfl rfl rfl hB (by omega) (by omega) ?_
        refine RW.load1 sc3 rfl rfl (fun w' hw' => hw'.base_cell (hycell 0 _ rfl) (by simp [feet])) ?_
        refine RW.eqlI rfl rfl rfl ?_
        refine RW.move rfl rfl ?_
        -- mq: guard slot 26
        refine RW.casesB 26 rfl (fun h4 => ?_) (fun h4 => ?_)
        · skip
          have h4p := of_decide_eq_true h4
          refine RW.guardT rfl rfl h4 ?_
          refine RW.move rfl rfl ?_
          refine RW.guardT rfl rfl h4 ?_
          refine RW.lenSl Tryd.underlying40 rfl rfl ?_
          refine RW.guardT rfl rfl h4 ?_
          refine RW.eqlI rfl rfl rfl ?_
          refine RW.guardT rfl rfl h4 ?_
          refine RW.move rfl rfl ?_
          -- mq: guard slot 30
          refine RW.casesB 30 rfl (fun h5 => ?_) (fun h5 => ?_)
          · skip
            have h5p := of_decide_eq_true h5
            refine RW.guardF rfl rfl rfl h5 ?_
            refine RW.guardF rfl rfl rfl h5 ?_
            refine RW.guardF rfl rfl rfl h5 ?_
            refine RW.guardT rfl rfl h4 ?_
            refine RW.pickB rfl rfl h5 rfl ?_
            refine RW.pickB rfl rfl h4 rfl ?_
            refine RW.assign rfl rfl ?_
            refine RW.nil ?_
            -- mq: joinend
            exact EX.jn (Sub.cons (congrArg (fun x => some (Value.bool x)) (by rw [eq_comm, decide_eq_true_iff]; omega)) (by repeat (first | exact Sub.nil | refine Sub.cons (by rfl) ?_))) (fun _ h => h)
          · skip
            have h5p := of_decide_eq_false h5
            refine RW.guardT rfl rfl h5 ?_
            refine RW.move rfl rfl ?_
            refine RW.guardT rfl rfl h5 ?_
            refine RW.lenSl Tryd.underlying40 rfl rfl ?_
            refine RW.guardT rfl rfl h5 ?_
            refine RW.eqlI rfl rfl rfl ?_
            refine RW.guardT rfl rfl h4 ?_
            refine RW.pickC rfl rfl h5 rfl ?_
            refine RW.pickB rfl rfl h4 rfl ?_
            refine RW.assign rfl rfl ?_
            refine RW.nil ?_
            -- mq: joinend
            exact EX.jn (Sub.cons (congrArg (fun x => some (Value.bool x)) (by rw [decide_eq_decide]; omega)) (by repeat (first | exact Sub.nil | refine Sub.cons (by rfl) ?_))) (fun _ h => h)
        · skip
          have h4p := of_decide_eq_false h4
          refine RW.guardF rfl rfl rfl h4 ?_
          refine RW.guardF rfl rfl rfl h4 ?_
          refine RW.guardF rfl rfl rfl h4 ?_
          refine RW.guardF rfl rfl rfl h4 ?_
          refine RW.guardU rfl rfl rfl ?_
          refine RW.guardU rfl rfl rfl ?_
          refine RW.guardU rfl rfl rfl ?_
          refine RW.guardF rfl rfl rfl h4 ?_
          refine RW.pickC rfl rfl h4 rfl ?_
          refine RW.assign rfl rfl ?_
          refine RW.nil ?_
          -- mq: joinend
          exact EX.jn (Sub.cons (congrArg (fun x => some (Value.bool x)) (by rw [eq_comm, decide_eq_false_iff_not]; omega)) (by repeat (first | exact Sub.nil | refine Sub.cons (by rfl) ?_))) (fun _ h => h)
      · skip
        refine EX.seq ?_
        -- mq: cond
        first | refine CW.condD rfl (fun h6 => ?_) (fun h6 => ?_) | refine CW.cond rfl (fun h6 => ?_) (fun h6 => ?_)
        · skip
          refine CW.seq (CW.region ?_)
          refine RW.move rfl rfl ?_
          refine RW.move rfl rfl ?_
          refine RW.lenSl Tryd.underlying40 rfl rfl ?_
          refine RW.sub_ rfl rfl rfl (wrap64 (by omega) (by omega)) ?_
          -- mq: at
          refine RW.sliceSl (n - 3) n sl40 rfl rfl (.inl ⟨_, _, rfl, rfl, by omega⟩) (.inr ⟨rfl, rfl⟩) (by omega) (by omega) ?_
          have hcut := hr.cut (p := n - 3) (q := n) (by omega) (by omega)
          rw [List.take_of_length_le (by omega)] at hcut
          -- mq: op 5: ('Op.call', ('Call.mk', ('Callee.value', ('Operand.func', '34')), ('arr', ('Operand.tmp', '40')), ('arr', '40'))) -> slot 41 ("attr.go:69")
          refine RW.call rfl ca34 rfl (fun w' hw' => byte3_c w' _ _ _ _ (g.drop (n - 3)) (hcut.ext hw'.ext (by simp)) (by omega)) ?_
          refine RW.extract rfl rfl rfl ?_
          refine RW.extract rfl rfl rfl ?_
          refine RW.storeA ag23 rfl rfl (by first | exact Upd.head | exact Upd.tail Upd.head | exact Upd.tail (Upd.tail Upd.head) | exact Upd.tail (Upd.tail (Upd.tail Upd.head)) | exact Upd.tail (Upd.tail (Upd.tail (Upd.tail Upd.head))) | exact Upd.tail (Upd.tail (Upd.tail (Upd.tail (Upd.tail Upd.head)))) | exact Upd.tail (Upd.tail (Upd.tail (Upd.tail (Upd.tail (Upd.tail Upd.head)))))) (by first | rfl | exact Enc.len _ _) (by repeat (first | exact Ones.nil | exact Enc.ones _ _ | refine Ones.cons rfl ?_)) (by first | exact Nat.le_of_ble_eq_true rfl | (simp only [Enc.len]; decide)) ?_
          refine RW.assign rfl rfl ?_
          refine RW.nil (EX.seq (CW.ret (EX.bkR (EX.seqR ?_))))
          refine EX.fin2' Tryd.results24 (RV.cellA ag23 rfl (by first | exact Has.head | exact Has.tail Has.head | exact Has.tail (Has.tail Has.head) | exact Has.tail (Has.tail (Has.tail Has.head)) | exact Has.tail (Has.tail (Has.tail (Has.tail Has.head))) | exact Has.tail (Has.tail (Has.tail (Has.tail (Has.tail Has.head)))) | exact Has.tail (Has.tail (Has.tail (Has.tail (Has.tail (Has.tail Has.head)))))) rfl rfl) (RV.tmp rfl) (fun wz hw => ?_)
          -- mq: done
          refine ⟨?_, hw.ext⟩
          rw [insF, hx, if_neg (fun h => h3 ⟨by simpa using h.1, by omega⟩), if_pos ⟨by rw [h6.1], by omega⟩, hl]
          rfl
        · skip
          refine CW.skip (EX.bkN (EX.seq (CW.seq (CW.region ?_))))
          refine RW.buildS bu23 rfl rfl rfl ?_
          refine RW.storeA ag23 rfl rfl (by first | exact Upd.head | exact Upd.tail Upd.head | exact Upd.tail (Upd.tail Upd.head) | exact Upd.tail (Upd.tail (Upd.tail Upd.head)) | exact Upd.tail (Upd.tail (Upd.tail (Upd.tail Upd.head))) | exact Upd.tail (Upd.tail (Upd.tail (Upd.tail (Upd.tail Upd.head)))) | exact Upd.tail (Upd.tail (Upd.tail (Upd.tail (Upd.tail (Upd.tail Upd.head)))))) (by first | rfl | exact Enc.len _ _) (by repeat (first | exact Ones.nil | exact Enc.ones _ _ | refine Ones.cons rfl ?_)) (by first | exact Nat.le_of_ble_eq_true rfl | (simp only [Enc.len]; decide)) ?_
          refine RW.assign rfl rfl ?_
          refine RW.nil (EX.seq (CW.ret ?_))
          refine EX.fin2' Tryd.results24 (RV.cellA ag23 rfl (by first | exact Has.head | exact Has.tail Has.head | exact Has.tail (Has.tail Has.head) | exact Has.tail (Has.tail (Has.tail Has.head)) | exact Has.tail (Has.tail (Has.tail (Has.tail Has.head))) | exact Has.tail (Has.tail (Has.tail (Has.tail (Has.tail Has.head)))) | exact Has.tail (Has.tail (Has.tail (Has.tail (Has.tail (Has.tail Has.head)))))) rfl rfl) (RV.tmp rfl) (fun wz hw => ?_)
          -- mq: done
          refine ⟨?_, hw.ext⟩
          rw [hno h3 h6]
          rfl
end Go.Proofs.YtojfodeienchfaaDoor.Mq
