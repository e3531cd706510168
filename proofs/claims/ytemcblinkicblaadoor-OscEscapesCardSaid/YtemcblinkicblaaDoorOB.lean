/- osc: OscBack; the arguments and variables, opened -/
import Derived.Test.YtemcblinkicblaaDoorOL
import Derived.Test.YtemcblinkicblaaDoorOpn
import Derived.Test.YtemcblinkicblaaDoorRows
import Derived.Test.YtemcblinkicblaaDoorShp
import Derived.Lib.LaidTab
import Derived.Stop.LaidErr
import Derived.MakeChecks
import Derived.Look8
namespace Go.Proofs.YtemcblinkicblaaDoor.Mq
open Go Go.RowKit Go.Proofs Go.ChangeShapes Go.WideShapes Go.Deep

theorem writeO_len {x : SgV} (hc : -9223372036854775808 ≤ x.code ∧ x.code ≤ 9223372036854775807) (ht : x.text.length ≤ 256) : (writeO x).length ≤ 2000 := by
  have h1 := itoa_le hc
  have h2 := escF_len x.text
  unfold writeO
  repeat' split
  all_goals simp only [List.length_append, List.length_cons, List.length_nil, doneL, setL]
  all_goals omega
def wantA (x : SgV) : SgV := if x.kind = 4 ∧ x.has = true then ⟨4, x.code, true, []⟩ else kindS x.kind
theorem back_c (w : World) (hg : GO w) (x : SgV) (hx : x.Wf) :
    Calls Tryd.prog 8 [.agg x.cells.toArray].toArray w (fun e w' => e = .returned (.bool true) ∧ Ext [] w w') := by
  have hcode : -9223372036854775808 ≤ x.code ∧ x.code ≤ 9223372036854775807 := hx.2
  refine calls (n := 67) Tryd.func8 rfl Tryd.ntmps8 rfl ?_
  refine CW.sub (H' := SH w [] []) ?_ (Sub.refl _) (fun x hx => SH.start' _ _ hx)
  refine CW.seq (CW.region ?_)
  refine RW.boxA rfl rfl (fun g1 hg1 hf1 => ?_)
  refine RW.assign rfl rfl ?_
  refine RW.nil (EX.seq (CW.seq (CW.seq ?_)))
  -- mq: region
  refine CW.region ?_
  refine RW.fieldB fl24x3 rfl rfl ?_
  refine RW.loadB1 sc9 rfl rfl (by first | exact Has.head | exact Has.tail Has.head | exact Has.tail (Has.tail Has.head) | exact Has.tail (Has.tail (Has.tail Has.head)) | exact Has.tail (Has.tail (Has.tail (Has.tail Has.head))) | exact Has.tail (Has.tail (Has.tail (Has.tail (Has.tail Has.head)))) | exact Has.tail (Has.tail (Has.tail (Has.tail (Has.tail (Has.tail Has.head)))))) rfl ?_
  refine RW.lenS Tryd.underlying9 rfl rfl ?_
  refine RW.gtr rfl rfl rfl ?_
  refine RW.move rfl rfl ?_
  -- mq: guard slot 8
  refine RW.casesB 8 rfl (fun q1 => ?_) (fun q1 => ?_)
  · skip
    have q1p := of_decide_eq_true q1
    refine RW.guardF rfl rfl rfl q1 ?_
    refine RW.guardF rfl rfl rfl q1 ?_
    refine RW.guardF rfl rfl rfl q1 ?_
    refine RW.pickB rfl rfl q1 rfl ?_
    refine RW.move rfl rfl ?_
    refine RW.guardF rfl rfl rfl rfl ?_
    refine RW.guardF rfl rfl rfl rfl ?_
    refine RW.guardF rfl rfl rfl rfl ?_
    refine RW.pickB rfl rfl rfl rfl ?_
    refine RW.move rfl rfl ?_
    refine RW.guardF rfl rfl rfl rfl ?_
    refine RW.guardF rfl rfl rfl rfl ?_
    refine RW.guardF rfl rfl rfl rfl ?_
    refine RW.pickB rfl rfl rfl rfl ?_
    refine RW.move rfl rfl ?_
    refine RW.guardF rfl rfl rfl rfl ?_
    refine RW.guardF rfl rfl rfl rfl ?_
    refine RW.guardF rfl rfl rfl rfl ?_
    refine RW.pickB rfl rfl rfl rfl ?_
    refine RW.nil (EX.seq ?_)
    -- mq: cond
    refine CW.condT rfl (rfl) ?_
    refine CW.seq (CW.region ?_)
    refine RW.call rfl ca9 rfl (fun w' hw' => awake_c w' (hg.ext hw'.ext)) ?_
    refine RW.assign rfl rfl ?_
    refine RW.nil (EX.seq (CW.ret (EX.seqR ?_)))
    refine EX.fin1 Tryd.results8 rfl (fun wz hw => ?_)
    -- mq: done
    exact ⟨rfl, hw.ext⟩
  · skip
    have q1p := of_decide_eq_false q1
    refine RW.guardT rfl rfl q1 ?_
    refine RW.fieldB fl24x1 rfl rfl ?_
    refine RW.guardT rfl rfl q1 ?_
    refine RW.loadB1 sc3 rfl rfl (by first | exact Has.head | exact Has.tail Has.head | exact Has.tail (Has.tail Has.head) | exact Has.tail (Has.tail (Has.tail Has.head)) | exact Has.tail (Has.tail (Has.tail (Has.tail Has.head))) | exact Has.tail (Has.tail (Has.tail (Has.tail (Has.tail Has.head)))) | exact Has.tail (Has.tail (Has.tail (Has.tail (Has.tail (Has.tail Has.head)))))) rfl ?_
    refine RW.guardT rfl rfl q1 ?_
    refine RW.lss rfl rfl rfl ?_
    refine RW.pickC rfl rfl q1 rfl ?_
    refine RW.move rfl rfl ?_
    -- mq: guard slot 13
    refine RW.casesB 13 rfl (fun q2 => ?_) (fun q2 => ?_)
    · skip
      have q2p := of_decide_eq_true q2
      refine RW.guardF rfl rfl rfl q2 ?_
      refine RW.guardF rfl rfl rfl q2 ?_
      refine RW.guardF rfl rfl rfl q2 ?_
      refine RW.pickB rfl rfl q2 rfl ?_
      refine RW.move rfl rfl ?_
      refine RW.guardF rfl rfl rfl rfl ?_
      refine RW.guardF rfl rfl rfl rfl ?_
      refine RW.guardF rfl rfl rfl rfl ?_
      refine RW.pickB rfl rfl rfl rfl ?_
      refine RW.move rfl rfl ?_
      refine RW.guardF rfl rfl rfl rfl ?_
      refine RW.guardF rfl rfl rfl rfl ?_
      refine RW.guardF rfl rfl rfl rfl ?_
      refine RW.pickB rfl rfl rfl rfl ?_
      refine RW.nil (EX.seq ?_)
      -- mq: cond
      refine CW.condT rfl (rfl) ?_
      refine CW.seq (CW.region ?_)
      refine RW.call rfl ca9 rfl (fun w' hw' => awake_c w' (hg.ext hw'.ext)) ?_
      refine RW.assign rfl rfl ?_
      refine RW.nil (EX.seq (CW.ret (EX.seqR ?_)))
      refine EX.fin1 Tryd.results8 rfl (fun wz hw => ?_)
      -- mq: done
      exact ⟨rfl, hw.ext⟩
    · skip
      have q2p := of_decide_eq_false q2
      refine RW.guardT rfl rfl q2 ?_
      refine RW.fieldB fl24x1 rfl rfl ?_
      refine RW.guardT rfl rfl q2 ?_
      refine RW.loadB1 sc3 rfl rfl (by first | exact Has.head | exact Has.tail Has.head | exact Has.tail (Has.tail Has.head) | exact Has.tail (Has.tail (Has.tail Has.head)) | exact Has.tail (Has.tail (Has.tail (Has.tail Has.head))) | exact Has.tail (Has.tail (Has.tail (Has.tail (Has.tail Has.head)))) | exact Has.tail (Has.tail (Has.tail (Has.tail (Has.tail (Has.tail Has.head)))))) rfl ?_
      refine RW.guardT rfl rfl q2 ?_
      refine RW.gtr rfl rfl rfl ?_
      refine RW.pickC rfl rfl q2 rfl ?_
      refine RW.move rfl rfl ?_
      -- mq: guard slot 18
      refine RW.casesB 18 rfl (fun q3 => ?_) (fun q3 => ?_)
      · skip
        have q3p := of_decide_eq_true q3
        refine RW.guardF rfl rfl rfl q3 ?_
        refine RW.guardF rfl rfl rfl q3 ?_
        refine RW.guardF rfl rfl rfl q3 ?_
        refine RW.pickB rfl rfl q3 rfl ?_
        refine RW.move rfl rfl ?_
        refine RW.guardF rfl rfl rfl rfl ?_
        refine RW.guardF rfl rfl rfl rfl ?_
        refine RW.guardF rfl rfl rfl rfl ?_
        refine RW.pickB rfl rfl rfl rfl ?_
        refine RW.nil (EX.seq ?_)
        -- mq: cond
        refine CW.condT rfl (rfl) ?_
        refine CW.seq (CW.region ?_)
        refine RW.call rfl ca9 rfl (fun w' hw' => awake_c w' (hg.ext hw'.ext)) ?_
        refine RW.assign rfl rfl ?_
        refine RW.nil (EX.seq (CW.ret (EX.seqR ?_)))
        refine EX.fin1 Tryd.results8 rfl (fun wz hw => ?_)
        -- mq: done
        exact ⟨rfl, hw.ext⟩
      · skip
        have q3p := of_decide_eq_false q3
        refine RW.guardT rfl rfl q3 ?_
        refine RW.fieldB fl24x0 rfl rfl ?_
        refine RW.guardT rfl rfl q3 ?_
        refine RW.loadB1 sc3 rfl rfl (by first | exact Has.head | exact Has.tail Has.head | exact Has.tail (Has.tail Has.head) | exact Has.tail (Has.tail (Has.tail Has.head)) | exact Has.tail (Has.tail (Has.tail (Has.tail Has.head))) | exact Has.tail (Has.tail (Has.tail (Has.tail (Has.tail Has.head)))) | exact Has.tail (Has.tail (Has.tail (Has.tail (Has.tail (Has.tail Has.head)))))) rfl ?_
        refine RW.guardT rfl rfl q3 ?_
        refine RW.lss rfl rfl rfl ?_
        refine RW.pickC rfl rfl q3 rfl ?_
        refine RW.move rfl rfl ?_
        -- mq: guard slot 23
        refine RW.casesB 23 rfl (fun q4 => ?_) (fun q4 => ?_)
        · skip
          have q4p := of_decide_eq_true q4
          refine RW.guardF rfl rfl rfl q4 ?_
          refine RW.guardF rfl rfl rfl q4 ?_
          refine RW.guardF rfl rfl rfl q4 ?_
          refine RW.pickB rfl rfl q4 rfl ?_
          refine RW.nil (EX.seq ?_)
          -- mq: cond
          refine CW.condT rfl (rfl) ?_
          refine CW.seq (CW.region ?_)
          refine RW.call rfl ca9 rfl (fun w' hw' => awake_c w' (hg.ext hw'.ext)) ?_
          refine RW.assign rfl rfl ?_
          refine RW.nil (EX.seq (CW.ret (EX.seqR ?_)))
          refine EX.fin1 Tryd.results8 rfl (fun wz hw => ?_)
          -- mq: done
          exact ⟨rfl, hw.ext⟩
        · skip
          have q4p := of_decide_eq_false q4
          refine RW.guardT rfl rfl q4 ?_
          refine RW.fieldB fl24x0 rfl rfl ?_
          refine RW.guardT rfl rfl q4 ?_
          refine RW.loadB1 sc3 rfl rfl (by first | exact Has.head | exact Has.tail Has.head | exact Has.tail (Has.tail Has.head) | exact Has.tail (Has.tail (Has.tail Has.head)) | exact Has.tail (Has.tail (Has.tail (Has.tail Has.head))) | exact Has.tail (Has.tail (Has.tail (Has.tail (Has.tail Has.head)))) | exact Has.tail (Has.tail (Has.tail (Has.tail (Has.tail (Has.tail Has.head)))))) rfl ?_
          refine RW.guardT rfl rfl q4 ?_
          refine RW.gtr rfl rfl rfl ?_
          refine RW.pickC rfl rfl q4 rfl ?_
          refine RW.nil (EX.seq ?_)
          -- mq: cond
          first | refine CW.condD rfl (fun q5 => ?_) (fun q5 => ?_) | refine CW.cond rfl (fun q5 => ?_) (fun q5 => ?_)
          · skip
            refine CW.seq (CW.region ?_)
            refine RW.call rfl ca9 rfl (fun w' hw' => awake_c w' (hg.ext hw'.ext)) ?_
            refine RW.assign rfl rfl ?_
            refine RW.nil (EX.seq (CW.ret (EX.seqR ?_)))
            refine EX.fin1 Tryd.results8 rfl (fun wz hw => ?_)
            -- mq: done
            exact ⟨rfl, hw.ext⟩
          · skip
            have hbk := back_o (x := x) (by omega) (by omega) (by omega)
            have hwl := writeO_len (x := x) hcode (by omega)
            have hr := fun w' (h : GO w') => Write_c w' h x hx (by omega)
            have hq := fun w' (h : GO w') => Read_c w' h (writeO x) (by omega)
            rw [hbk] at hq
            generalize writeO x = t at hr hq hwl
            refine CW.skip (EX.seq (CW.seq (CW.region ?_)))
            refine RW.fieldB fl24x0 rfl rfl ?_
            refine RW.loadB1 sc3 rfl rfl (by first | exact Has.head | exact Has.tail Has.head | exact Has.tail (Has.tail Has.head) | exact Has.tail (Has.tail (Has.tail Has.head)) | exact Has.tail (Has.tail (Has.tail (Has.tail Has.head))) | exact Has.tail (Has.tail (Has.tail (Has.tail (Has.tail Has.head)))) | exact Has.tail (Has.tail (Has.tail (Has.tail (Has.tail (Has.tail Has.head)))))) rfl ?_
            refine RW.buildS bu24 rfl rfl rfl ?_
            refine RW.allocA ag24 rfl (fun g3 hg3 hf3 => ?_)
            refine RW.storeA ag24 rfl rfl (by first | exact Upd.head | exact Upd.tail Upd.head | exact Upd.tail (Upd.tail Upd.head) | exact Upd.tail (Upd.tail (Upd.tail Upd.head)) | exact Upd.tail (Upd.tail (Upd.tail (Upd.tail Upd.head))) | exact Upd.tail (Upd.tail (Upd.tail (Upd.tail (Upd.tail Upd.head)))) | exact Upd.tail (Upd.tail (Upd.tail (Upd.tail (Upd.tail (Upd.tail Upd.head)))))) (by first | rfl | exact Enc.len _ _) (by repeat (first | exact Ones.nil | exact Enc.ones _ _ | refine Ones.cons rfl ?_)) (by first | exact Nat.le_of_ble_eq_true rfl | (simp only [Enc.len]; decide)) ?_
            refine RW.nil (EX.seq (CW.seq (CW.seq ?_)))
            -- mq: region
            refine CW.sub (H' := SH w [] [blk g3 (kindS x.kind).cells 24, blk g1 x.cells 24]) ?_ (Sub.refl _) (fun x hx => hx.csEq (by kernel_rfl))
            refine CW.joinI (fun b : Bool => [(1, .pointer (some ⟨g1, 0, none⟩)), (3, .pointer (some ⟨g3, 0, none⟩)), (38, .bool b)]) (fun _ => SH w [] [blk g3 (kindS x.kind).cells 24, blk g1 x.cells 24]) (fun b => (b = true ↔ x.kind = 4 ∧ x.has = true)) ?_ ?_
            · skip
              refine CW.region ?_
              refine RW.fieldB fl24x0 rfl rfl ?_
              refine RW.loadB1 sc3 rfl rfl (by first | exact Has.head | exact Has.tail Has.head | exact Has.tail (Has.tail Has.head) | exact Has.tail (Has.tail (Has.tail Has.head)) | exact Has.tail (Has.tail (Has.tail (Has.tail Has.head))) | exact Has.tail (Has.tail (Has.tail (Has.tail (Has.tail Has.head)))) | exact Has.tail (Has.tail (Has.tail (Has.tail (Has.tail (Has.tail Has.head)))))) rfl ?_
              refine RW.eqlI rfl rfl rfl ?_
              refine RW.move rfl rfl ?_
              -- mq: guard slot 35
              refine RW.casesB 35 rfl (fun h4 => ?_) (fun h4 => ?_)
              · skip
                have h4p := of_decide_eq_true h4
                refine RW.guardT rfl rfl h4 ?_
                refine RW.fieldB fl24x2 rfl rfl ?_
                refine RW.guardT rfl rfl h4 ?_
                refine RW.loadB1 sc4 rfl rfl (by first | exact Has.head | exact Has.tail Has.head | exact Has.tail (Has.tail Has.head) | exact Has.tail (Has.tail (Has.tail Has.head)) | exact Has.tail (Has.tail (Has.tail (Has.tail Has.head))) | exact Has.tail (Has.tail (Has.tail (Has.tail (Has.tail Has.head)))) | exact Has.tail (Has.tail (Has.tail (Has.tail (Has.tail (Has.tail Has.head)))))) rfl ?_
                refine RW.pickB rfl rfl h4 rfl ?_
                refine RW.nil ?_
                -- mq: joinend
                exact EX.jnI x.has ⟨fun h => ⟨h4p, h⟩, fun h => h.2⟩ (by repeat (first | exact Sub.nil | refine Sub.cons (by rfl) ?_)) (fun _ h => h)
              · skip
                have h4p := of_decide_eq_false h4
                refine RW.guardF rfl rfl rfl h4 ?_
                refine RW.guardF rfl rfl rfl h4 ?_
                refine RW.pickC rfl rfl h4 rfl ?_
                refine RW.nil ?_
                -- mq: joinend
                exact EX.jnI false ⟨fun h => (by cases h), fun h => absurd h.1 h4p⟩ (by repeat (first | exact Sub.nil | refine Sub.cons (by rfl) ?_)) (fun _ h => h)
            · skip
              intro b hb
              refine EX.seq ?_
              -- mq: cond
              refine CW.join ([(1, .pointer (some ⟨g1, 0, none⟩)), (3, .pointer (some ⟨g3, 0, none⟩))]) (SH w [] [blk g3 (wantA x).cells 24, blk g1 x.cells 24]) ?_ ?_
              · skip
                first | refine CW.condD rfl (fun hbb => ?_) (fun hbb => ?_) | refine CW.cond rfl (fun hbb => ?_) (fun hbb => ?_)
                · skip
                  have hk := hb.1 hbb
                  refine CW.region ?_
                  refine RW.fieldB fl24x1 rfl rfl ?_
                  refine RW.loadB1 sc3 rfl rfl (by first | exact Has.head | exact Has.tail Has.head | exact Has.tail (Has.tail Has.head) | exact Has.tail (Has.tail (Has.tail Has.head)) | exact Has.tail (Has.tail (Has.tail (Has.tail Has.head))) | exact Has.tail (Has.tail (Has.tail (Has.tail (Has.tail Has.head)))) | exact Has.tail (Has.tail (Has.tail (Has.tail (Has.tail (Has.tail Has.head)))))) rfl ?_
                  refine RW.fieldB fl24x1 rfl rfl ?_
                  refine RW.store1 sc3 rfl rfl (by first | exact Upd.head | exact Upd.tail Upd.head | exact Upd.tail (Upd.tail Upd.head) | exact Upd.tail (Upd.tail (Upd.tail Upd.head)) | exact Upd.tail (Upd.tail (Upd.tail (Upd.tail Upd.head))) | exact Upd.tail (Upd.tail (Upd.tail (Upd.tail (Upd.tail Upd.head)))) | exact Upd.tail (Upd.tail (Upd.tail (Upd.tail (Upd.tail (Upd.tail Upd.head)))))) rfl (by first | exact Nat.le_of_ble_eq_true rfl | simp) ?_
                  refine RW.fieldB fl24x2 rfl rfl ?_
                  refine RW.store1 sc4 rfl rfl (by first | exact Upd.head | exact Upd.tail Upd.head | exact Upd.tail (Upd.tail Upd.head) | exact Upd.tail (Upd.tail (Upd.tail Upd.head)) | exact Upd.tail (Upd.tail (Upd.tail (Upd.tail Upd.head))) | exact Upd.tail (Upd.tail (Upd.tail (Upd.tail (Upd.tail Upd.head)))) | exact Upd.tail (Upd.tail (Upd.tail (Upd.tail (Upd.tail (Upd.tail Upd.head)))))) rfl (by first | exact Nat.le_of_ble_eq_true rfl | simp) ?_
                  refine RW.nil ?_
                  -- mq: joinend
                  refine EX.jn (by repeat (first | exact Sub.nil | refine Sub.cons (by rfl) ?_)) (fun w' hw' => hw'.blkEq ?_)
                  rw [show wantA x = ⟨x.kind, x.code, true, []⟩ by rw [wantA, if_pos hk, hk.1]]
                  rfl
                · skip
                  refine CW.skip ?_
                  -- mq: joinend
                  refine EX.jn (by repeat (first | exact Sub.nil | refine Sub.cons (by rfl) ?_)) (fun w' hw' => hw'.blkEq ?_)
                  rw [show wantA x = kindS x.kind by rw [wantA, if_neg (fun h => by rw [hb.2 h] at hbb; cases hbb)]]
              · skip
                refine EX.seq (CW.seq (CW.seq ?_))
                -- mq: region
                refine CW.joinI (fun b : Bool => [(1, .pointer (some ⟨g1, 0, none⟩)), (3, .pointer (some ⟨g3, 0, none⟩)), (55, .bool b)]) (fun _ => SH w [] [blk g3 (wantA x).cells 24, blk g1 x.cells 24]) (fun b => (b = true ↔ x.kind = 5 ∨ x.kind = 6 ∨ x.kind = 8)) ?_ ?_
                · skip
                  refine CW.region ?_
                  refine RW.fieldB fl24x0 rfl rfl ?_
                  refine RW.loadB1 sc3 rfl rfl (by first | exact Has.head | exact Has.tail Has.head | exact Has.tail (Has.tail Has.head) | exact Has.tail (Has.tail (Has.tail Has.head)) | exact Has.tail (Has.tail (Has.tail (Has.tail Has.head))) | exact Has.tail (Has.tail (Has.tail (Has.tail (Has.tail Has.head)))) | exact Has.tail (Has.tail (Has.tail (Has.tail (Has.tail (Has.tail Has.head)))))) rfl ?_
                  refine RW.eqlI rfl rfl rfl ?_
                  refine RW.move rfl rfl ?_
                  -- mq: guard slot 46
                  refine RW.casesB 46 rfl (fun h5 => ?_) (fun h5 => ?_)
                  · skip
                    have h5p := of_decide_eq_true h5
                    refine RW.guardF rfl rfl rfl h5 ?_
                    refine RW.guardF rfl rfl rfl h5 ?_
                    refine RW.guardF rfl rfl rfl h5 ?_
                    refine RW.pickB rfl rfl h5 rfl ?_
                    refine RW.move rfl rfl ?_
                    refine RW.guardF rfl rfl rfl rfl ?_
                    refine RW.guardF rfl rfl rfl rfl ?_
                    refine RW.guardF rfl rfl rfl rfl ?_
                    refine RW.pickB rfl rfl rfl rfl ?_
                    refine RW.nil ?_
                    -- mq: joinend
                    -- mq: joinend
                    exact EX.jnI true ⟨fun _ => .inl h5p, fun _ => rfl⟩ (by repeat (first | exact Sub.nil | refine Sub.cons (by rfl) ?_)) (fun _ h => h)
                  · skip
                    have h5p := of_decide_eq_false h5
                    refine RW.guardT rfl rfl h5 ?_
                    refine RW.fieldB fl24x0 rfl rfl ?_
                    refine RW.guardT rfl rfl h5 ?_
                    refine RW.loadB1 sc3 rfl rfl (by first | exact Has.head | exact Has.tail Has.head | exact Has.tail (Has.tail Has.head) | exact Has.tail (Has.tail (Has.tail Has.head)) | exact Has.tail (Has.tail (Has.tail (Has.tail Has.head))) | exact Has.tail (Has.tail (Has.tail (Has.tail (Has.tail Has.head)))) | exact Has.tail (Has.tail (Has.tail (Has.tail (Has.tail (Has.tail Has.head)))))) rfl ?_
                    refine RW.guardT rfl rfl h5 ?_
                    refine RW.eqlI rfl rfl rfl ?_
                    refine RW.pickC rfl rfl h5 rfl ?_
                    refine RW.move rfl rfl ?_
                    -- mq: guard slot 51
                    refine RW.casesB 51 rfl (fun h6 => ?_) (fun h6 => ?_)
                    · skip
                      have h6p := of_decide_eq_true h6
                      refine RW.guardF rfl rfl rfl h6 ?_
                      refine RW.guardF rfl rfl rfl h6 ?_
                      refine RW.guardF rfl rfl rfl h6 ?_
                      refine RW.pickB rfl rfl h6 rfl ?_
                      refine RW.nil ?_
                      -- mq: joinend
                      exact EX.jnI true ⟨fun _ => .inr (.inl h6p), fun _ => rfl⟩ (by repeat (first | exact Sub.nil | refine Sub.cons (by rfl) ?_)) (fun _ h => h)
                    · skip
                      have h6p := of_decide_eq_false h6
                      refine RW.guardT rfl rfl h6 ?_
                      refine RW.fieldB fl24x0 rfl rfl ?_
                      refine RW.guardT rfl rfl h6 ?_
                      refine RW.loadB1 sc3 rfl rfl (by first | exact Has.head | exact Has.tail Has.head | exact Has.tail (Has.tail Has.head) | exact Has.tail (Has.tail (Has.tail Has.head)) | exact Has.tail (Has.tail (Has.tail (Has.tail Has.head))) | exact Has.tail (Has.tail (Has.tail (Has.tail (Has.tail Has.head)))) | exact Has.tail (Has.tail (Has.tail (Has.tail (Has.tail (Has.tail Has.head)))))) rfl ?_
                      refine RW.guardT rfl rfl h6 ?_
                      refine RW.eqlI rfl rfl rfl ?_
                      refine RW.pickC rfl rfl h6 rfl ?_
                      refine RW.nil ?_
                      -- mq: joinend
                      exact EX.jnI (decide (x.kind = 8)) (by rw [decide_eq_true_eq]; exact ⟨fun h => .inr (.inr h), fun h => by omega⟩) (by repeat (first | exact Sub.nil | refine Sub.cons (by rfl) ?_)) (fun _ h => h)
                · skip
                  intro b2 hb2
                  refine EX.seq ?_
                  -- mq: cond
                  refine CW.join ([(1, .pointer (some ⟨g1, 0, none⟩)), (3, .pointer (some ⟨g3, 0, none⟩))]) (SH w [] [blk g3 (wantO x).cells 24, blk g1 x.cells 24]) ?_ ?_
                  · skip
                    first | refine CW.condD rfl (fun hbb => ?_) (fun hbb => ?_) | refine CW.cond rfl (fun hbb => ?_) (fun hbb => ?_)
                    · skip
                      have hk := hb2.1 hbb
                      have hk4 : ¬ (x.kind = 4 ∧ x.has = true) := fun h => by omega
                      rw [show wantA x = kindS x.kind by rw [wantA, if_neg hk4]]
                      refine CW.region ?_
                      refine RW.fieldB fl24x3 rfl rfl ?_
                      refine RW.loadB1 sc9 rfl rfl (by first | exact Has.head | exact Has.tail Has.head | exact Has.tail (Has.tail Has.head) | exact Has.tail (Has.tail (Has.tail Has.head)) | exact Has.tail (Has.tail (Has.tail (Has.tail Has.head))) | exact Has.tail (Has.tail (Has.tail (Has.tail (Has.tail Has.head)))) | exact Has.tail (Has.tail (Has.tail (Has.tail (Has.tail (Has.tail Has.head)))))) rfl ?_
                      refine RW.fieldB fl24x3 rfl rfl ?_
                      refine RW.store1 sc9 rfl rfl (by first | exact Upd.head | exact Upd.tail Upd.head | exact Upd.tail (Upd.tail Upd.head) | exact Upd.tail (Upd.tail (Upd.tail Upd.head)) | exact Upd.tail (Upd.tail (Upd.tail (Upd.tail Upd.head))) | exact Upd.tail (Upd.tail (Upd.tail (Upd.tail (Upd.tail Upd.head)))) | exact Upd.tail (Upd.tail (Upd.tail (Upd.tail (Upd.tail (Upd.tail Upd.head)))))) rfl (by first | exact Nat.le_of_ble_eq_true rfl | simp) ?_
                      refine RW.nil ?_
                      -- mq: joinend
                      refine EX.jn (by repeat (first | exact Sub.nil | refine Sub.cons (by rfl) ?_)) (fun w' hw' => hw'.blkEq ?_)
                      rw [show wantO x = ⟨x.kind, 0, false, x.text⟩ by rw [wantO, if_neg hk4, if_pos hk]]
                      rfl
                    · skip
                      have hk : ¬ (x.kind = 5 ∨ x.kind = 6 ∨ x.kind = 8) := fun h => by rw [hb2.2 h] at hbb; cases hbb
                      refine CW.skip ?_
                      -- mq: joinend
                      refine EX.jn (by repeat (first | exact Sub.nil | refine Sub.cons (by rfl) ?_)) (fun w' hw' => hw'.blkEq ?_)
                      rw [show wantO x = wantA x by unfold wantO wantA; rw [if_neg hk]]
                  · skip
                    refine EX.seq (CW.seq ?_)
                    -- mq: region
                    generalize wantO x = y at *
                    refine CW.drawU [0, 3] 3 [[(1, false, []), (2, false, [4, 5]), (6, false, [7, 8])]] (Ch [blk g3 y.cells 24, blk g1 x.cells 24]) mixed (by kernel_rfl) (fun _ hw => hw.drew) (fun _ h => (by first | trivial | exact h | exact h.ch | exact (h.rem Rem.head).ch | exact ((h.rem Rem.head).rem Rem.head).ch | exact (((h.rem Rem.head).rem Rem.head).rem Rem.head).ch)) ?_
                    refine QuP.cons rfl (fun wq hq => (RW.loadA ag24 rfl rfl rfl (fun w1 e1 j u hj => by subst e1; exact hq.blk_at (sz := 4) (by first | exact Has.head | exact Has.tail Has.head | exact Has.tail (Has.tail Has.head) | exact Has.tail (Has.tail (Has.tail Has.head)) | exact Has.tail (Has.tail (Has.tail (Has.tail Has.head))) | exact Has.tail (Has.tail (Has.tail (Has.tail (Has.tail Has.head)))) | exact Has.tail (Has.tail (Has.tail (Has.tail (Has.tail (Has.tail Has.head)))))) rfl j u hj) RW.jn)) ?_
                    refine QuP.cons rfl (fun wq hq => (RW.loadA ag24 rfl rfl rfl (fun w1 e1 j u hj => by subst e1; exact hq.blk_at (sz := 4) (by first | exact Has.head | exact Has.tail Has.head | exact Has.tail (Has.tail Has.head) | exact Has.tail (Has.tail (Has.tail Has.head)) | exact Has.tail (Has.tail (Has.tail (Has.tail Has.head))) | exact Has.tail (Has.tail (Has.tail (Has.tail (Has.tail Has.head)))) | exact Has.tail (Has.tail (Has.tail (Has.tail (Has.tail (Has.tail Has.head)))))) rfl j u hj) RW.jn)) ?_
                    refine QuP.nil ?_
                    refine UW.step [_] rfl (List.forall_mem_cons.2 ⟨?_, by simp⟩)
                    refine RW.call rfl ca18 rfl (fun w' hw' => hr w' (hg.ext hw'.ext)) ?_
                    refine RW.st (fun _ => True) (fun _ h => .inr (by first | trivial | exact h | exact h.ch | exact (h.rem Rem.head).ch | exact ((h.rem Rem.head).rem Rem.head).ch | exact (((h.rem Rem.head).rem Rem.head).rem Rem.head).ch)) (fun _ h => trivial) ?_
                    refine QuP.nil ?_
                    refine UW.step [_] rfl (List.forall_mem_cons.2 ⟨?_, by simp⟩)
                    refine RW.call rfl ca10 rfl (fun w' hw' => hq w' (hg.ext hw'.ext)) ?_
                    refine RW.st (fun _ => True) (fun _ h => .inr ⟨.inr (by first | trivial | exact h | exact h.ch | exact (h.rem Rem.head).ch | exact ((h.rem Rem.head).rem Rem.head).ch | exact (((h.rem Rem.head).rem Rem.head).rem Rem.head).ch), trivial⟩) (fun _ h => trivial) ?_
                    refine QuP.cons rfl (fun wq hq => (RW.eqlSt eq24 rfl rfl rfl (by kernel_rfl) (heqG y y) RW.jn)) ?_
                    refine QuP.cons rfl (fun wq hq => (RW.move rfl rfl RW.jn)) ?_
                    refine QuP.nil ?_
                    refine UW.step [_] rfl (List.forall_mem_cons.2 ⟨?_, by simp⟩)
                    refine RW.guardT rfl rfl ((decide_eq_true rfl)) ?_
                    refine RW.call rfl ca9 rfl (fun w' hw' => awake_c w' (hg.ext hw'.ext)) ?_
                    refine RW.st (fun _ => True) (fun _ h => .inr ⟨.inr ⟨.inr (by first | trivial | exact h | exact h.ch | exact (h.rem Rem.head).ch | exact ((h.rem Rem.head).rem Rem.head).ch | exact (((h.rem Rem.head).rem Rem.head).rem Rem.head).ch), trivial⟩, trivial⟩) (fun _ h => trivial) ?_
                    refine QuP.cons rfl (fun wq hq => (RW.pickB rfl rfl (decide_eq_true rfl) rfl RW.jn)) ?_
                    refine QuP.cons rfl (fun wq hq => (RW.assign rfl rfl RW.jn)) ?_
                    refine QuP.nil ?_
                    refine UW.nil (EX.seq (CW.ret ?_))
                    refine EX.fin1 Tryd.results8 rfl (fun wz hw => ?_)
                    -- mq: done
                    exact ⟨rfl, hw.ext⟩
theorem pow10_data {H : Type} : (Rows.laid_internal_strconv_uint64pow10 : DataW H) = Lib.tabData .u64 Lib.pow10Tab := by kernel_rfl
theorem star_err : "*" ++ "errors.errorString" = "*errors.errorString" := by decide
theorem row_err (u : TypeId) (h : Tryd.prog.typeName? 3 u = some "*errors.errorString") : u = 105 :=
  typeName_ptr_named (nm := "errors.errorString") (by rw [star_err]; kernel_rfl) (by kernel_rfl) (by decide) u (by rw [star_err]; exact h)
theorem go_of {W : World} (h : laidMetH Tryd.prog Rows.oscReadsRow.laid W) (hsh : W.ShapedOpen Tryd.prog) : GO W := by
  rw [MakeChecks.laidMetH_plain _ _ _ (by kernel_rfl)] at h
  have h2 := laidMet.tail (laidMet.tail h)
  have h4 := laidMet.tail (laidMet.tail h2)
  have h5 := laidMet.tail h4
  rw [show (Rows.laid_internal_strconv_uint64pow10 : DataW Unit) = Lib.tabData .u64 Lib.pow10Tab from pow10_data] at h2
  obtain ⟨a1, s1, hv1, _⟩ := laid_sentinel (g := lays172C_ren.g 16) (ti := 53) (tp := 105) (te := 107) (ts := 9) h4 (by kernel_rfl) (by kernel_rfl) Tryd.underlying53 row_err Tryd.underlying105 Tryd.underlying107 rfl rfl Tryd.underlying9 (by kernel_rfl) (by kernel_rfl)
  obtain ⟨a2, s2, hv2, _⟩ := laid_sentinel (g := lays172C_ren.g 15) (ti := 53) (tp := 105) (te := 107) (ts := 9) h5 (by kernel_rfl) (by kernel_rfl) Tryd.underlying53 row_err Tryd.underlying105 Tryd.underlying107 rfl rfl Tryd.underlying9 (by kernel_rfl) (by kernel_rfl)
  refine ⟨Lib.tabIs_of_head (g := lays171_ren.g 17) (n := 20) (t := 109) (e := 70) (by kernel_rfl) (by kernel_rfl) (by kernel_rfl) (by kernel_rfl) (by kernel_rfl) (by kernel_rfl) h2, ⟨⟨105, .pointer (some a2), ?_⟩, ⟨105, .pointer (some a1), ?_⟩⟩, gm_of hsh⟩
  · have h0 := World.var?_cell lays172C.m15 hv2 0
    simpa using h0
  · have h0 := World.var?_cell lays172C.m16 hv1 0
    simpa using h0
section
variable {H : Type} {enc : TypeId × Value → H} {w : World} {base : Nat} {spare : Nat → Bool} {held : Bool}
theorem wf64 {n : Int} (h : (Lit.int .i64 n).wf = true) : In64 n := by
  unfold In64
  simpa [Lit.wf, IntKind.min, IntKind.max, IntKind.signed, IntKind.bits] using h
def sgShape : List Lf := [.int .i64, .int .i64, .bool, .str]
theorem sg_of {P : Program} {cs : List Value} (h : Fits enc P w base spare held sgShape cs) : ∃ a : SgV, ESg.enc a = cs ∧ a.Wf := by
  obtain ⟨_, _, rfl, ⟨x0, rfl, k0⟩, h0⟩ := h.cons
  obtain ⟨_, _, rfl, ⟨x1, rfl, k1⟩, h1⟩ := h0.cons
  obtain ⟨_, _, rfl, ⟨x2, rfl⟩, h2⟩ := h1.cons
  obtain ⟨_, _, rfl, ⟨x3, rfl, _⟩, h3⟩ := h2.cons
  obtain rfl := h3.nil'
  exact ⟨⟨x0, x1, x2, x3.data.toList⟩, rfl, wf64 k0, wf64 k1⟩
theorem u8_of {n : Int} (h : (Lit.int .u8 n).wf = true) : ∃ a : UInt8, n = (a.toNat : Int) ∧ True := by
  have h : 0 ≤ n ∧ n ≤ 255 := by simpa [Lit.wf, IntKind.min, IntKind.max, IntKind.signed, IntKind.bits] using h
  exact ⟨UInt8.ofNat n.toNat, by rw [UInt8.toNat_ofNat']; omega, trivial⟩
end
end Go.Proofs.YtemcblinkicblaaDoor.Mq
