/- tape: the reference's Line (printed by gentp4.py) -/
import Derived.Test.YtnpafpnameleaaaDoorTp3
import Derived.Test.YtnpafpnameleaaaDoorDrawU
namespace Go.Proofs.YtnpafpnameleaaaDoor.Mq
open Go Go.RowKit Go.Proofs

def rlineV (x : StV) : Value := .tuple #[.string (bs (if okSt x = true then lineS x else [])), .bool (okSt x)]
theorem rlineV_no {x : StV} (h : ¬ okSt x = true) : rlineV x = .tuple #[.string (bs []), .bool false] := by rw [rlineV, if_neg h, Bool.eq_false_iff.2 h]
theorem rlineV_ok {x : StV} (h : okSt x = true) : rlineV x = .tuple #[.string (bs (lineS x)), .bool true] := by rw [rlineV, if_pos h, h]
theorem combo : ∀ k, k < 7 → (numsK k = 0 ∧ hasK k = true) ∨ (numsK k = 2 ∧ hasK k = false) ∨ (numsK k = 1 ∧ hasK k = false) ∨ (numsK k = 1 ∧ hasK k = true) := by decide
theorem lineS4 (k : Nat) (a b : Int) (d : List UInt8) : lineS ⟨(k : Int), a, b, d⟩ = Lib.join (wordsK.getD k [] :: ((if 1 ≤ numsK k then [Lib.itoa a] else []) ++ ((if 2 ≤ numsK k then [Lib.itoa b] else []) ++ (if hasK k = true then [hexT d] else [])))) [32] := rfl
theorem wordsK_at : ∀ k, k < 7 → wordsK[k]? = some (wordsK.getD k []) := by decide
theorem refLine_c4 (w : World) (kk a b : Int) (d : List UInt8) (ha : In64 a) (hb : In64 b) :
    Calls Tryd.prog 10 [.agg #[.int .i64 kk, .int .i64 a, .int .i64 b, .string (bs d)]].toArray w (fun e w' => e = .returned (rlineV ⟨kk, a, b, d⟩) ∧ Ext [] w w') := by
  have hla := itoa_len ha
  have hlb := itoa_len hb
  refine calls (n := 81) Tryd.func10 rfl Tryd.ntmps10 rfl ?_
  refine CW.sub (H' := SH w [] []) ?_ (Sub.refl _) (fun x hx => SH.start' _ _ hx)
  refine CW.seq (CW.region ?_)
  refine RW.boxA rfl rfl (fun g1 hg1 hf1 => ?_)
  refine RW.assign rfl rfl ?_
  refine RW.assign rfl rfl ?_
  refine RW.nil (EX.seq (CW.seq (CW.seq ?_)))
  -- mq: region
  refine CW.region ?_
  refine RW.fieldB fl23x0 rfl rfl ?_
  refine RW.loadB1 sc3 rfl rfl (by first | exact Has.head | exact Has.tail Has.head | exact Has.tail (Has.tail Has.head) | exact Has.tail (Has.tail (Has.tail Has.head)) | exact Has.tail (Has.tail (Has.tail (Has.tail Has.head))) | exact Has.tail (Has.tail (Has.tail (Has.tail (Has.tail Has.head)))) | exact Has.tail (Has.tail (Has.tail (Has.tail (Has.tail (Has.tail Has.head)))))) rfl ?_
  refine RW.lss rfl rfl rfl ?_
  refine RW.move rfl rfl ?_
  -- mq: guard slot 9
  by_cases hk0 : kk < 0 ∨ 6 < kk ∨ 65536 < d.length
  · skip
    have hno : ¬ okSt ⟨kk, a, b, d⟩ = true := fun h => by have h1 := (okSt_iff.1 h).1; have h2 := (okSt_iff.1 h).2.1; dsimp only at h1 h2; omega
    refine RW.casesB 9 rfl (fun h1 => ?_) (fun h1 => ?_)
    · skip
      have h1p := of_decide_eq_true h1
      refine RW.guardF rfl rfl rfl h1 ?_
      refine RW.guardF rfl rfl rfl h1 ?_
      refine RW.guardF rfl rfl rfl h1 ?_
      refine RW.pickB rfl rfl h1 rfl ?_
      refine RW.move rfl rfl ?_
      refine RW.guardF rfl rfl rfl rfl ?_
      refine RW.guardF rfl rfl rfl rfl ?_
      refine RW.guardF rfl rfl rfl rfl ?_
      refine RW.guardF rfl rfl rfl rfl ?_
      refine RW.pickB rfl rfl rfl rfl ?_
      refine RW.nil (EX.seq ?_)
      -- mq: cond
      refine CW.condT rfl (rfl) ?_
      refine CW.seq (CW.region ?_)
      refine RW.assign rfl rfl ?_
      refine RW.assign rfl rfl ?_
      refine RW.nil (EX.seq (CW.ret (EX.seqR ?_)))
      refine EX.fin2 Tryd.results10 rfl rfl (fun wz hw => ?_)
      -- mq: done
      exact ⟨by rw [rlineV_no hno], hw.ext⟩
    · skip
      have h1p := of_decide_eq_false h1
      refine RW.guardT rfl rfl h1 ?_
      refine RW.fieldB fl23x0 rfl rfl ?_
      refine RW.guardT rfl rfl h1 ?_
      refine RW.loadB1 sc3 rfl rfl (by first | exact Has.head | exact Has.tail Has.head | exact Has.tail (Has.tail Has.head) | exact Has.tail (Has.tail (Has.tail Has.head)) | exact Has.tail (Has.tail (Has.tail (Has.tail Has.head))) | exact Has.tail (Has.tail (Has.tail (Has.tail (Has.tail Has.head)))) | exact Has.tail (Has.tail (Has.tail (Has.tail (Has.tail (Has.tail Has.head)))))) rfl ?_
      refine RW.guardT rfl rfl h1 ?_
      refine RW.gtr rfl rfl rfl ?_
      refine RW.pickC rfl rfl h1 rfl ?_
      refine RW.move rfl rfl ?_
      -- mq: guard slot 14
      refine RW.casesB 14 rfl (fun h2 => ?_) (fun h2 => ?_)
      · skip
        have h2p := of_decide_eq_true h2
        refine RW.guardF rfl rfl rfl h2 ?_
        refine RW.guardF rfl rfl rfl h2 ?_
        refine RW.guardF rfl rfl rfl h2 ?_
        refine RW.guardF rfl rfl rfl h2 ?_
        refine RW.pickB rfl rfl h2 rfl ?_
        refine RW.nil (EX.seq ?_)
        -- mq: cond
        refine CW.condT rfl (rfl) ?_
        refine CW.seq (CW.region ?_)
        refine RW.assign rfl rfl ?_
        refine RW.assign rfl rfl ?_
        refine RW.nil (EX.seq (CW.ret (EX.seqR ?_)))
        refine EX.fin2 Tryd.results10 rfl rfl (fun wz hw => ?_)
        -- mq: done
        exact ⟨by rw [rlineV_no hno], hw.ext⟩
      · skip
        have h2p := of_decide_eq_false h2
        refine RW.guardT rfl rfl h2 ?_
        refine RW.fieldB fl23x3 rfl rfl ?_
        refine RW.guardT rfl rfl h2 ?_
        refine RW.loadB1 sc9 rfl rfl (by first | exact Has.head | exact Has.tail Has.head | exact Has.tail (Has.tail Has.head) | exact Has.tail (Has.tail (Has.tail Has.head)) | exact Has.tail (Has.tail (Has.tail (Has.tail Has.head))) | exact Has.tail (Has.tail (Has.tail (Has.tail (Has.tail Has.head)))) | exact Has.tail (Has.tail (Has.tail (Has.tail (Has.tail (Has.tail Has.head)))))) rfl ?_
        refine RW.guardT rfl rfl h2 ?_
        refine RW.lenS Tryd.underlying9 rfl rfl ?_
        refine RW.guardT rfl rfl h2 ?_
        refine RW.gtr rfl rfl rfl ?_
        refine RW.pickC rfl rfl h2 rfl ?_
        refine RW.nil (EX.seq ?_)
        -- mq: cond
        first | refine CW.condD rfl (fun h3 => ?_) (fun h3 => ?_) | refine CW.cond rfl (fun h3 => ?_) (fun h3 => ?_)
        · skip
          refine CW.seq (CW.region ?_)
          refine RW.assign rfl rfl ?_
          refine RW.assign rfl rfl ?_
          refine RW.nil (EX.seq (CW.ret (EX.seqR ?_)))
          refine EX.fin2 Tryd.results10 rfl rfl (fun wz hw => ?_)
          -- mq: done
          exact ⟨by rw [rlineV_no hno], hw.ext⟩
        · skip
          omega
  · skip
    obtain ⟨k, rfl⟩ : ∃ k : Nat, kk = (k : Int) := ⟨kk.toNat, by omega⟩
    have hk : k < 7 := by omega
    have hwl := wordsK_len k hk
    have hhx : (hexT d).length = 2 * d.length + 1 := by unfold hexT; rw [List.length_cons, hexP_len]
    refine RW.casesB 9 rfl (fun h1 => ?_) (fun h1 => ?_)
    · skip
      have h1p := of_decide_eq_true h1
      omega
    · skip
      have h1p := of_decide_eq_false h1
      refine RW.guardT rfl rfl h1 ?_
      refine RW.fieldB fl23x0 rfl rfl ?_
      refine RW.guardT rfl rfl h1 ?_
      refine RW.loadB1 sc3 rfl rfl (by first | exact Has.head | exact Has.tail Has.head | exact Has.tail (Has.tail Has.head) | exact Has.tail (Has.tail (Has.tail Has.head)) | exact Has.tail (Has.tail (Has.tail (Has.tail Has.head))) | exact Has.tail (Has.tail (Has.tail (Has.tail (Has.tail Has.head)))) | exact Has.tail (Has.tail (Has.tail (Has.tail (Has.tail (Has.tail Has.head)))))) rfl ?_
      refine RW.guardT rfl rfl h1 ?_
      refine RW.gtr rfl rfl rfl ?_
      refine RW.pickC rfl rfl h1 rfl ?_
      refine RW.move rfl rfl ?_
      -- mq: guard slot 14
      refine RW.casesB 14 rfl (fun h2 => ?_) (fun h2 => ?_)
      · skip
        have h2p := of_decide_eq_true h2
        omega
      · skip
        have h2p := of_decide_eq_false h2
        refine RW.guardT rfl rfl h2 ?_
        refine RW.fieldB fl23x3 rfl rfl ?_
        refine RW.guardT rfl rfl h2 ?_
        refine RW.loadB1 sc9 rfl rfl (by first | exact Has.head | exact Has.tail Has.head | exact Has.tail (Has.tail Has.head) | exact Has.tail (Has.tail (Has.tail Has.head)) | exact Has.tail (Has.tail (Has.tail (Has.tail Has.head))) | exact Has.tail (Has.tail (Has.tail (Has.tail (Has.tail Has.head)))) | exact Has.tail (Has.tail (Has.tail (Has.tail (Has.tail (Has.tail Has.head)))))) rfl ?_
        refine RW.guardT rfl rfl h2 ?_
        refine RW.lenS Tryd.underlying9 rfl rfl ?_
        refine RW.guardT rfl rfl h2 ?_
        refine RW.gtr rfl rfl rfl ?_
        refine RW.pickC rfl rfl h2 rfl ?_
        refine RW.nil (EX.seq ?_)
        -- mq: cond
        refine CW.condF rfl ((decide_eq_false (by omega))) ?_
        refine CW.skip (EX.seq (CW.seq ?_))
        -- mq: region
        refine CW.drawU [1, 2] 2 [[(0, false, [3]), (4, false, [5])]] (Ch [blk g1 [.int .i64 (k : Int), .int .i64 a, .int .i64 b, .string (bs d)] 23]) mixed (by kernel_rfl) (fun _ hw => hw.drew) (fun _ h => (by first | trivial | exact h | exact h.ch | exact (h.rem Rem.head).ch | exact ((h.rem Rem.head).rem Rem.head).ch | exact (((h.rem Rem.head).rem Rem.head).rem Rem.head).ch)) ?_
        refine QuP.cons rfl (fun wq hq => (RW.fieldB fl23x0 rfl rfl RW.jn)) ?_
        refine QuP.cons rfl (fun wq hq => (RW.load1 sc3 rfl rfl (fun w1 e1 => by subst e1; exact hq.blk_cell (by first | exact Has.head | exact Has.tail Has.head | exact Has.tail (Has.tail Has.head) | exact Has.tail (Has.tail (Has.tail Has.head)) | exact Has.tail (Has.tail (Has.tail (Has.tail Has.head))) | exact Has.tail (Has.tail (Has.tail (Has.tail (Has.tail Has.head)))) | exact Has.tail (Has.tail (Has.tail (Has.tail (Has.tail (Has.tail Has.head)))))) rfl) RW.jn)) ?_
        refine QuP.nil ?_
        refine UW.step [_] rfl (List.forall_mem_cons.2 ⟨?_, by simp⟩)
        -- mq: op 0: ('Op.call', ('Call.mk', ('Callee.value', ('Operand.func', '22')), ('arr',), ('arr',))) -> slot 20 ("ref.go:46")
        refine RW.callK rfl ca22 rfl (fun w' _ => words_c w') (fun w2 w3 A4 n4 c4 hw2 he23 hw3 hlt3 hrd4 => ?_)
        have hn4 := hrd4.len
        have hn7 : wordsK.length = 7 := rfl
        have hx13 : Ext [] w w3 := hw2.ext.trans0 he23
        obtain ⟨ad, hA, hAd, hcl⟩ := hrd4.at_ (wordsK_at k hk)
        refine RW.st (fun _ => True) (fun _ h => .inr (by first | trivial | exact h | exact h.ch | exact (h.rem Rem.head).ch | exact ((h.rem Rem.head).rem Rem.head).ch | exact (((h.rem Rem.head).rem Rem.head).rem Rem.head).ch)) (fun _ h => trivial) ?_
        refine QuP.cons rfl (fun wq hq => (RW.ixAddr (q := k) sl50 rfl rfl rfl (by first | rfl | assumption) (by omega) (by omega) RW.jn)) ?_
        refine QuP.nil ?_
        refine UW.step [_] rfl (List.forall_mem_cons.2 ⟨?_, by simp⟩)
        refine RW.load1 sc9 rfl rfl (fun w' hw' => hw'.base_cell (hcl 0 _ rfl) (fun hk2 => by have := hlt3 _ hk2; rw [block_add] at this; omega)) ?_
        refine RW.st (fun _ => True) (fun _ h => .inr ⟨.inr (by first | trivial | exact h | exact h.ch | exact (h.rem Rem.head).ch | exact ((h.rem Rem.head).rem Rem.head).ch | exact (((h.rem Rem.head).rem Rem.head).rem Rem.head).ch), trivial⟩) (fun _ h => trivial) ?_
        refine QuP.cons rfl (fun wq hq => (RW.assign rfl rfl RW.jn)) ?_
        refine QuP.nil ?_
        refine UW.nil (EX.seq (CW.seq ?_))
        -- mq: region
        have hx := hw2.cov
        rcases combo k hk with ⟨hn, hh⟩ | ⟨hn, hh⟩ | ⟨hn, hh⟩ | ⟨hn, hh⟩
        · skip
          refine CW.region ?_
          refine RW.fieldB fl23x0 rfl rfl ?_
          refine RW.loadB1 sc3 rfl rfl (by first | exact Has.head | exact Has.tail Has.head | exact Has.tail (Has.tail Has.head) | exact Has.tail (Has.tail (Has.tail Has.head)) | exact Has.tail (Has.tail (Has.tail (Has.tail Has.head))) | exact Has.tail (Has.tail (Has.tail (Has.tail (Has.tail Has.head)))) | exact Has.tail (Has.tail (Has.tail (Has.tail (Has.tail (Has.tail Has.head)))))) rfl ?_
          refine RW.call (v := .int .i64 0) rfl ca23 rfl (fun w' _ => by have h := nums_c w' k hk; rw [hn] at h; exact h) ?_
          refine RW.assign rfl rfl ?_
          refine RW.nil (EX.seq (CW.seq (CW.seq ?_)))
          -- mq: region
          refine CW.region ?_
          refine RW.move rfl rfl ?_
          refine RW.lss rfl rfl rfl ?_
          refine RW.move rfl rfl ?_
          refine RW.guardT rfl rfl rfl ?_
          refine RW.fieldB fl23x1 rfl rfl ?_
          refine RW.guardT rfl rfl rfl ?_
          refine RW.loadB1 sc3 rfl rfl (by first | exact Has.head | exact Has.tail Has.head | exact Has.tail (Has.tail Has.head) | exact Has.tail (Has.tail (Has.tail Has.head)) | exact Has.tail (Has.tail (Has.tail (Has.tail Has.head))) | exact Has.tail (Has.tail (Has.tail (Has.tail (Has.tail Has.head)))) | exact Has.tail (Has.tail (Has.tail (Has.tail (Has.tail (Has.tail Has.head)))))) rfl ?_
          refine RW.guardT rfl rfl rfl ?_
          refine RW.neqI rfl rfl rfl ?_
          refine RW.pickB rfl rfl rfl rfl ?_
          refine RW.move rfl rfl ?_
          -- mq: guard slot 35
          refine RW.casesB 35 rfl (fun h5 => ?_) (fun h5 => ?_)
          · skip
            have h5p := of_decide_eq_true h5
            refine RW.guardF rfl rfl rfl h5 ?_
            refine RW.guardF rfl rfl rfl h5 ?_
            refine RW.guardF rfl rfl rfl h5 ?_
            refine RW.guardU rfl rfl rfl ?_
            refine RW.guardU rfl rfl rfl ?_
            refine RW.guardU rfl rfl rfl ?_
            refine RW.guardF rfl rfl rfl h5 ?_
            refine RW.pickB rfl rfl h5 rfl ?_
            refine RW.move rfl rfl ?_
            refine RW.guardF rfl rfl rfl rfl ?_
            refine RW.guardF rfl rfl rfl rfl ?_
            refine RW.guardF rfl rfl rfl rfl ?_
            refine RW.guardF rfl rfl rfl rfl ?_
            refine RW.guardF rfl rfl rfl rfl ?_
            refine RW.guardU rfl rfl rfl ?_
            refine RW.guardU rfl rfl rfl ?_
            refine RW.guardU rfl rfl rfl ?_
            refine RW.guardF rfl rfl rfl rfl ?_
            refine RW.pickB rfl rfl rfl rfl ?_
            refine RW.nil (EX.seq ?_)
            -- mq: cond
            refine CW.condT rfl (rfl) ?_
            refine CW.seq (CW.region ?_)
            refine RW.assign rfl rfl ?_
            refine RW.assign rfl rfl ?_
            refine RW.nil (EX.seq (CW.ret (EX.seqR ?_)))
            refine EX.fin2 Tryd.results10 rfl rfl (fun wz hw => ?_)
            -- mq: done
            exact ⟨by rw [rlineV_no (fun h => by obtain ⟨_, _, q3, q4, q5⟩ := okSt4.1 h; rw [hn] at q3; have h6 := h5p; omega)], (hw.unbase hx13 hx).ext⟩
          · skip
            have h5p := of_decide_eq_false h5
            refine RW.guardT rfl rfl h5 ?_
            refine RW.move rfl rfl ?_
            refine RW.guardT rfl rfl h5 ?_
            refine RW.lss rfl rfl rfl ?_
            refine RW.guardT rfl rfl h5 ?_
            refine RW.move rfl rfl ?_
            refine RW.guardT rfl rfl rfl ?_
            refine RW.fieldB fl23x2 rfl rfl ?_
            refine RW.guardT rfl rfl rfl ?_
            refine RW.loadB1 sc3 rfl rfl (by first | exact Has.head | exact Has.tail Has.head | exact Has.tail (Has.tail Has.head) | exact Has.tail (Has.tail (Has.tail Has.head)) | exact Has.tail (Has.tail (Has.tail (Has.tail Has.head))) | exact Has.tail (Has.tail (Has.tail (Has.tail (Has.tail Has.head)))) | exact Has.tail (Has.tail (Has.tail (Has.tail (Has.tail (Has.tail Has.head)))))) rfl ?_
            refine RW.guardT rfl rfl rfl ?_
            refine RW.neqI rfl rfl rfl ?_
            refine RW.guardT rfl rfl h5 ?_
            refine RW.pickB rfl rfl rfl rfl ?_
            refine RW.pickC rfl rfl h5 rfl ?_
            refine RW.move rfl rfl ?_
            -- mq: guard slot 44
            refine RW.casesB 44 rfl (fun h6 => ?_) (fun h6 => ?_)
            · skip
              have h6p := of_decide_eq_true h6
              refine RW.guardF rfl rfl rfl h6 ?_
              refine RW.guardF rfl rfl rfl h6 ?_
              refine RW.guardF rfl rfl rfl h6 ?_
              refine RW.guardF rfl rfl rfl h6 ?_
              refine RW.guardF rfl rfl rfl h6 ?_
              refine RW.guardU rfl rfl rfl ?_
              refine RW.guardU rfl rfl rfl ?_
              refine RW.guardU rfl rfl rfl ?_
              refine RW.guardF rfl rfl rfl h6 ?_
              refine RW.pickB rfl rfl h6 rfl ?_
              refine RW.nil (EX.seq ?_)
              -- mq: cond
              refine CW.condT rfl (rfl) ?_
              refine CW.seq (CW.region ?_)
              refine RW.assign rfl rfl ?_
              refine RW.assign rfl rfl ?_
              refine RW.nil (EX.seq (CW.ret (EX.seqR ?_)))
              refine EX.fin2 Tryd.results10 rfl rfl (fun wz hw => ?_)
              -- mq: done
              exact ⟨by rw [rlineV_no (fun h => by obtain ⟨_, _, q3, q4, q5⟩ := okSt4.1 h; rw [hn] at q4; have h7 := h6p; omega)], (hw.unbase hx13 hx).ext⟩
            · skip
              have h6p := of_decide_eq_false h6
              refine RW.guardT rfl rfl h6 ?_
              refine RW.fieldB fl23x0 rfl rfl ?_
              refine RW.guardT rfl rfl h6 ?_
              refine RW.loadB1 sc3 rfl rfl (by first | exact Has.head | exact Has.tail Has.head | exact Has.tail (Has.tail Has.head) | exact Has.tail (Has.tail (Has.tail Has.head)) | exact Has.tail (Has.tail (Has.tail (Has.tail Has.head))) | exact Has.tail (Has.tail (Has.tail (Has.tail (Has.tail Has.head)))) | exact Has.tail (Has.tail (Has.tail (Has.tail (Has.tail (Has.tail Has.head)))))) rfl ?_
              refine RW.guardT rfl rfl h6 ?_
              refine RW.call (v := .bool true) rfl ca24 rfl (fun w' _ => by have h := has_c w' k hk; rw [hh] at h; exact h) ?_
              refine RW.guardT rfl rfl h6 ?_
              refine RW.not_ rfl rfl ?_
              refine RW.guardT rfl rfl h6 ?_
              refine RW.move rfl rfl ?_
              refine RW.guardF rfl rfl rfl rfl ?_
              refine RW.guardF rfl rfl rfl rfl ?_
              refine RW.guardF rfl rfl rfl rfl ?_
              refine RW.guardT rfl rfl h6 ?_
              refine RW.pickC rfl rfl rfl rfl ?_
              refine RW.pickC rfl rfl h6 rfl ?_
              refine RW.nil (EX.seq ?_)
              -- mq: cond
              refine CW.condF rfl (rfl) ?_
              have hap : (wordsK.getD k [] ++ [32]).length ≤ 7 := by rw [List.length_append]; show _ + 1 ≤ 7; omega
              refine CW.skip (EX.seq (CW.seq (CW.seq (CW.region ?_))))
              refine RW.move rfl rfl ?_
              refine RW.gtr rfl rfl rfl ?_
              refine RW.nil (EX.seq ?_)
              -- mq: cond
              refine CW.condF rfl (rfl) ?_
              refine CW.skip (EX.seq (CW.seq (CW.seq (CW.region ?_))))
              refine RW.move rfl rfl ?_
              refine RW.gtr rfl rfl rfl ?_
              refine RW.nil (EX.seq ?_)
              -- mq: cond
              refine CW.condF rfl (rfl) ?_
              refine CW.skip (EX.seq (CW.seq (CW.seq ?_)))
              -- mq: region
              refine CW.region ?_
              refine RW.fieldB fl23x0 rfl rfl ?_
              refine RW.loadB1 sc3 rfl rfl (by first | exact Has.head | exact Has.tail Has.head | exact Has.tail (Has.tail Has.head) | exact Has.tail (Has.tail (Has.tail Has.head)) | exact Has.tail (Has.tail (Has.tail (Has.tail Has.head))) | exact Has.tail (Has.tail (Has.tail (Has.tail (Has.tail Has.head)))) | exact Has.tail (Has.tail (Has.tail (Has.tail (Has.tail (Has.tail Has.head)))))) rfl ?_
              refine RW.call (v := .bool true) rfl ca24 rfl (fun w' _ => by have h := has_c w' k hk; rw [hh] at h; exact h) ?_
              refine RW.nil (EX.seq ?_)
              -- mq: cond
              refine CW.condT rfl (rfl) ?_
              refine CW.region ?_
              refine RW.move rfl rfl ?_
              refine RW.catS rfl rfl rfl (by first | omega | (simp only [List.length_append, List.length_cons, List.length_nil]; omega)) ?_
              refine RW.fieldB fl23x3 rfl rfl ?_
              refine RW.loadB1 sc9 rfl rfl (by first | exact Has.head | exact Has.tail Has.head | exact Has.tail (Has.tail Has.head) | exact Has.tail (Has.tail (Has.tail Has.head)) | exact Has.tail (Has.tail (Has.tail (Has.tail Has.head))) | exact Has.tail (Has.tail (Has.tail (Has.tail (Has.tail Has.head)))) | exact Has.tail (Has.tail (Has.tail (Has.tail (Has.tail (Has.tail Has.head)))))) rfl ?_
              refine RW.call rfl ca15 rfl (fun w' _ => refHex_c w' d (by omega)) ?_
              refine RW.catS rfl rfl rfl (by first | omega | (simp only [List.length_append, List.length_cons, List.length_nil]; omega)) ?_
              refine RW.assign rfl rfl ?_
              refine RW.nil (EX.seq (CW.seq (CW.region ?_)))
              refine RW.move rfl rfl ?_
              refine RW.assign rfl rfl ?_
              refine RW.assign rfl rfl ?_
              refine RW.nil (EX.seq (CW.ret ?_))
              refine EX.fin2 Tryd.results10 rfl rfl (fun wz hw => ?_)
              -- mq: done
              refine ⟨?_, (hw.unbase hx13 hx).ext⟩
              rw [rlineV_ok (okSt4.2 ⟨by omega, by omega, .inr (by have := h5p; omega), .inr (by have := h6p; omega), .inl hh⟩), lineS4, hn, hh]
              simp [joinTwo, Lib.join_one]
        · skip
          refine CW.region ?_
          refine RW.fieldB fl23x0 rfl rfl ?_
          refine RW.loadB1 sc3 rfl rfl (by first | exact Has.head | exact Has.tail Has.head | exact Has.tail (Has.tail Has.head) | exact Has.tail (Has.tail (Has.tail Has.head)) | exact Has.tail (Has.tail (Has.tail (Has.tail Has.head))) | exact Has.tail (Has.tail (Has.tail (Has.tail (Has.tail Has.head)))) | exact Has.tail (Has.tail (Has.tail (Has.tail (Has.tail (Has.tail Has.head)))))) rfl ?_
          refine RW.call (v := .int .i64 2) rfl ca23 rfl (fun w' _ => by have h := nums_c w' k hk; rw [hn] at h; exact h) ?_
          refine RW.assign rfl rfl ?_
          refine RW.nil (EX.seq (CW.seq (CW.seq ?_)))
          -- mq: region
          refine CW.region ?_
          refine RW.move rfl rfl ?_
          refine RW.lss rfl rfl rfl ?_
          refine RW.move rfl rfl ?_
          refine RW.guardF rfl rfl rfl rfl ?_
          refine RW.guardF rfl rfl rfl rfl ?_
          refine RW.guardF rfl rfl rfl rfl ?_
          refine RW.pickC rfl rfl rfl rfl ?_
          refine RW.move rfl rfl ?_
          refine RW.guardT rfl rfl rfl ?_
          refine RW.move rfl rfl ?_
          refine RW.guardT rfl rfl rfl ?_
          refine RW.lss rfl rfl rfl ?_
          refine RW.guardT rfl rfl rfl ?_
          refine RW.move rfl rfl ?_
          refine RW.guardF rfl rfl rfl rfl ?_
          refine RW.guardF rfl rfl rfl rfl ?_
          refine RW.guardF rfl rfl rfl rfl ?_
          refine RW.guardT rfl rfl rfl ?_
          refine RW.pickC rfl rfl rfl rfl ?_
          refine RW.pickC rfl rfl rfl rfl ?_
          refine RW.move rfl rfl ?_
          refine RW.guardT rfl rfl rfl ?_
          refine RW.fieldB fl23x0 rfl rfl ?_
          refine RW.guardT rfl rfl rfl ?_
          refine RW.loadB1 sc3 rfl rfl (by first | exact Has.head | exact Has.tail Has.head | exact Has.tail (Has.tail Has.head) | exact Has.tail (Has.tail (Has.tail Has.head)) | exact Has.tail (Has.tail (Has.tail (Has.tail Has.head))) | exact Has.tail (Has.tail (Has.tail (Has.tail (Has.tail Has.head)))) | exact Has.tail (Has.tail (Has.tail (Has.tail (Has.tail (Has.tail Has.head)))))) rfl ?_
          refine RW.guardT rfl rfl rfl ?_
          refine RW.call (v := .bool false) rfl ca24 rfl (fun w' _ => by have h := has_c w' k hk; rw [hh] at h; exact h) ?_
          refine RW.guardT rfl rfl rfl ?_
          refine RW.not_ rfl rfl ?_
          refine RW.guardT rfl rfl rfl ?_
          refine RW.move rfl rfl ?_
          refine RW.guardT rfl rfl rfl ?_
          refine RW.fieldB fl23x3 rfl rfl ?_
          refine RW.guardT rfl rfl rfl ?_
          refine RW.loadB1 sc9 rfl rfl (by first | exact Has.head | exact Has.tail Has.head | exact Has.tail (Has.tail Has.head) | exact Has.tail (Has.tail (Has.tail Has.head)) | exact Has.tail (Has.tail (Has.tail (Has.tail Has.head))) | exact Has.tail (Has.tail (Has.tail (Has.tail (Has.tail Has.head)))) | exact Has.tail (Has.tail (Has.tail (Has.tail (Has.tail (Has.tail Has.head)))))) rfl ?_
          refine RW.guardT rfl rfl rfl ?_
          refine RW.neqS rfl rfl rfl ?_
          refine RW.guardT rfl rfl rfl ?_
          refine RW.pickB rfl rfl rfl rfl ?_
          refine RW.pickC rfl rfl rfl rfl ?_
          refine RW.nil (EX.seq ?_)
          -- mq: cond
          first | refine CW.condD rfl (fun h8 => ?_) (fun h8 => ?_) | refine CW.cond rfl (fun h8 => ?_) (fun h8 => ?_)
          · skip
            refine CW.seq (CW.region ?_)
            refine RW.assign rfl rfl ?_
            refine RW.assign rfl rfl ?_
            refine RW.nil (EX.seq (CW.ret (EX.seqR ?_)))
            refine EX.fin2 Tryd.results10 rfl rfl (fun wz hw => ?_)
            -- mq: done
            exact ⟨by rw [rlineV_no (fun h => by obtain ⟨_, _, q3, q4, q5⟩ := okSt4.1 h; rw [hh] at q5; rcases q5 with e | e; cases e; exact absurd e (by simpa using h8))], (hw.unbase hx13 hx).ext⟩
          · skip
            have hd0 : d = [] := by simpa using h8
            have hap : (wordsK.getD k [] ++ [32]).length ≤ 7 := by rw [List.length_append]; show _ + 1 ≤ 7; omega
            refine CW.skip (EX.seq (CW.seq (CW.seq (CW.region ?_))))
            refine RW.move rfl rfl ?_
            refine RW.gtr rfl rfl rfl ?_
            refine RW.nil (EX.seq ?_)
            -- mq: cond
            refine CW.condT rfl (rfl) ?_
            refine CW.region ?_
            refine RW.move rfl rfl ?_
            refine RW.catS rfl rfl rfl (by first | omega | (simp only [List.length_append, List.length_cons, List.length_nil]; omega)) ?_
            refine RW.fieldB fl23x1 rfl rfl ?_
            refine RW.loadB1 sc3 rfl rfl (by first | exact Has.head | exact Has.tail Has.head | exact Has.tail (Has.tail Has.head) | exact Has.tail (Has.tail (Has.tail Has.head)) | exact Has.tail (Has.tail (Has.tail (Has.tail Has.head))) | exact Has.tail (Has.tail (Has.tail (Has.tail (Has.tail Has.head)))) | exact Has.tail (Has.tail (Has.tail (Has.tail (Has.tail (Has.tail Has.head)))))) rfl ?_
            refine RW.call rfl ca25 rfl (fun w' _ => refNumber_c w' a ha) ?_
            refine RW.catS rfl rfl rfl (by first | omega | (simp only [List.length_append, List.length_cons, List.length_nil]; omega)) ?_
            refine RW.assign rfl rfl ?_
            refine RW.nil (EX.seq (CW.seq (CW.seq (CW.region ?_))))
            refine RW.move rfl rfl ?_
            refine RW.gtr rfl rfl rfl ?_
            refine RW.nil (EX.seq ?_)
            -- mq: cond
            refine CW.condT rfl (rfl) ?_
            refine CW.region ?_
            refine RW.move rfl rfl ?_
            refine RW.catS rfl rfl rfl (by first | omega | (simp only [List.length_append, List.length_cons, List.length_nil]; omega)) ?_
            refine RW.fieldB fl23x2 rfl rfl ?_
            refine RW.loadB1 sc3 rfl rfl (by first | exact Has.head | exact Has.tail Has.head | exact Has.tail (Has.tail Has.head) | exact Has.tail (Has.tail (Has.tail Has.head)) | exact Has.tail (Has.tail (Has.tail (Has.tail Has.head))) | exact Has.tail (Has.tail (Has.tail (Has.tail (Has.tail Has.head)))) | exact Has.tail (Has.tail (Has.tail (Has.tail (Has.tail (Has.tail Has.head)))))) rfl ?_
            refine RW.call rfl ca25 rfl (fun w' _ => refNumber_c w' b hb) ?_
            refine RW.catS rfl rfl rfl (by first | omega | (simp only [List.length_append, List.length_cons, List.length_nil]; omega)) ?_
            refine RW.assign rfl rfl ?_
            refine RW.nil (EX.seq (CW.seq (CW.seq ?_)))
            -- mq: region
            refine CW.region ?_
            refine RW.fieldB fl23x0 rfl rfl ?_
            refine RW.loadB1 sc3 rfl rfl (by first | exact Has.head | exact Has.tail Has.head | exact Has.tail (Has.tail Has.head) | exact Has.tail (Has.tail (Has.tail Has.head)) | exact Has.tail (Has.tail (Has.tail (Has.tail Has.head))) | exact Has.tail (Has.tail (Has.tail (Has.tail (Has.tail Has.head)))) | exact Has.tail (Has.tail (Has.tail (Has.tail (Has.tail (Has.tail Has.head)))))) rfl ?_
            refine RW.call (v := .bool false) rfl ca24 rfl (fun w' _ => by have h := has_c w' k hk; rw [hh] at h; exact h) ?_
            refine RW.nil (EX.seq ?_)
            -- mq: cond
            refine CW.condF rfl (rfl) ?_
            refine CW.skip (EX.seq (CW.seq (CW.region ?_)))
            refine RW.move rfl rfl ?_
            refine RW.assign rfl rfl ?_
            refine RW.assign rfl rfl ?_
            refine RW.nil (EX.seq (CW.ret ?_))
            refine EX.fin2 Tryd.results10 rfl rfl (fun wz hw => ?_)
            -- mq: done
            refine ⟨?_, (hw.unbase hx13 hx).ext⟩
            rw [rlineV_ok (okSt4.2 ⟨by omega, by omega, .inl (by omega), .inl (by omega), .inr hd0⟩), lineS4, hn, hh]
            simp [joinTwo, Lib.join_one]
        · skip
          refine CW.region ?_
          refine RW.fieldB fl23x0 rfl rfl ?_
          refine RW.loadB1 sc3 rfl rfl (by first | exact Has.head | exact Has.tail Has.head | exact Has.tail (Has.tail Has.head) | exact Has.tail (Has.tail (Has.tail Has.head)) | exact Has.tail (Has.tail (Has.tail (Has.tail Has.head))) | exact Has.tail (Has.tail (Has.tail (Has.tail (Has.tail Has.head)))) | exact Has.tail (Has.tail (Has.tail (Has.tail (Has.tail (Has.tail Has.head)))))) rfl ?_
          refine RW.call (v := .int .i64 1) rfl ca23 rfl (fun w' _ => by have h := nums_c w' k hk; rw [hn] at h; exact h) ?_
          refine RW.assign rfl rfl ?_
          refine RW.nil (EX.seq (CW.seq (CW.seq ?_)))
          -- mq: region
          refine CW.region ?_
          refine RW.move rfl rfl ?_
          refine RW.lss rfl rfl rfl ?_
          refine RW.move rfl rfl ?_
          refine RW.guardF rfl rfl rfl rfl ?_
          refine RW.guardF rfl rfl rfl rfl ?_
          refine RW.guardF rfl rfl rfl rfl ?_
          refine RW.pickC rfl rfl rfl rfl ?_
          refine RW.move rfl rfl ?_
          refine RW.guardT rfl rfl rfl ?_
          refine RW.move rfl rfl ?_
          refine RW.guardT rfl rfl rfl ?_
          refine RW.lss rfl rfl rfl ?_
          refine RW.guardT rfl rfl rfl ?_
          refine RW.move rfl rfl ?_
          refine RW.guardT rfl rfl rfl ?_
          refine RW.fieldB fl23x2 rfl rfl ?_
          refine RW.guardT rfl rfl rfl ?_
          refine RW.loadB1 sc3 rfl rfl (by first | exact Has.head | exact Has.tail Has.head | exact Has.tail (Has.tail Has.head) | exact Has.tail (Has.tail (Has.tail Has.head)) | exact Has.tail (Has.tail (Has.tail (Has.tail Has.head))) | exact Has.tail (Has.tail (Has.tail (Has.tail (Has.tail Has.head)))) | exact Has.tail (Has.tail (Has.tail (Has.tail (Has.tail (Has.tail Has.head)))))) rfl ?_
          refine RW.guardT rfl rfl rfl ?_
          refine RW.neqI rfl rfl rfl ?_
          refine RW.guardT rfl rfl rfl ?_
          refine RW.pickB rfl rfl rfl rfl ?_
          refine RW.pickC rfl rfl rfl rfl ?_
          refine RW.move rfl rfl ?_
          -- mq: guard slot 44
          refine RW.casesB 44 rfl (fun h6 => ?_) (fun h6 => ?_)
          · skip
            have h6p := of_decide_eq_true h6
            refine RW.guardF rfl rfl rfl h6 ?_
            refine RW.guardF rfl rfl rfl h6 ?_
            refine RW.guardF rfl rfl rfl h6 ?_
            refine RW.guardF rfl rfl rfl h6 ?_
            refine RW.guardF rfl rfl rfl h6 ?_
            refine RW.guardU rfl rfl rfl ?_
            refine RW.guardU rfl rfl rfl ?_
            refine RW.guardU rfl rfl rfl ?_
            refine RW.guardF rfl rfl rfl h6 ?_
            refine RW.pickB rfl rfl h6 rfl ?_
            refine RW.nil (EX.seq ?_)
            -- mq: cond
            refine CW.condT rfl (rfl) ?_
            refine CW.seq (CW.region ?_)
            refine RW.assign rfl rfl ?_
            refine RW.assign rfl rfl ?_
            refine RW.nil (EX.seq (CW.ret (EX.seqR ?_)))
            refine EX.fin2 Tryd.results10 rfl rfl (fun wz hw => ?_)
            -- mq: done
            exact ⟨by rw [rlineV_no (fun h => by obtain ⟨_, _, q3, q4, q5⟩ := okSt4.1 h; rw [hn] at q4; have h7 := h6p; omega)], (hw.unbase hx13 hx).ext⟩
          · skip
            have h6p := of_decide_eq_false h6
            refine RW.guardT rfl rfl h6 ?_
            refine RW.fieldB fl23x0 rfl rfl ?_
            refine RW.guardT rfl rfl h6 ?_
            refine RW.loadB1 sc3 rfl rfl (by first | exact Has.head | exact Has.tail Has.head | exact Has.tail (Has.tail Has.head) | exact Has.tail (Has.tail (Has.tail Has.head)) | exact Has.tail (Has.tail (Has.tail (Has.tail Has.head))) | exact Has.tail (Has.tail (Has.tail (Has.tail (Has.tail Has.head)))) | exact Has.tail (Has.tail (Has.tail (Has.tail (Has.tail (Has.tail Has.head)))))) rfl ?_
            refine RW.guardT rfl rfl h6 ?_
            refine RW.call (v := .bool false) rfl ca24 rfl (fun w' _ => by have h := has_c w' k hk; rw [hh] at h; exact h) ?_
            refine RW.guardT rfl rfl h6 ?_
            refine RW.not_ rfl rfl ?_
            refine RW.guardT rfl rfl h6 ?_
            refine RW.move rfl rfl ?_
            refine RW.guardT rfl rfl rfl ?_
            refine RW.fieldB fl23x3 rfl rfl ?_
            refine RW.guardT rfl rfl rfl ?_
            refine RW.loadB1 sc9 rfl rfl (by first | exact Has.head | exact Has.tail Has.head | exact Has.tail (Has.tail Has.head) | exact Has.tail (Has.tail (Has.tail Has.head)) | exact Has.tail (Has.tail (Has.tail (Has.tail Has.head))) | exact Has.tail (Has.tail (Has.tail (Has.tail (Has.tail Has.head)))) | exact Has.tail (Has.tail (Has.tail (Has.tail (Has.tail (Has.tail Has.head)))))) rfl ?_
            refine RW.guardT rfl rfl rfl ?_
            refine RW.neqS rfl rfl rfl ?_
            refine RW.guardT rfl rfl h6 ?_
            refine RW.pickB rfl rfl rfl rfl ?_
            refine RW.pickC rfl rfl h6 rfl ?_
            refine RW.nil (EX.seq ?_)
            -- mq: cond
            first | refine CW.condD rfl (fun h8 => ?_) (fun h8 => ?_) | refine CW.cond rfl (fun h8 => ?_) (fun h8 => ?_)
            · skip
              refine CW.seq (CW.region ?_)
              refine RW.assign rfl rfl ?_
              refine RW.assign rfl rfl ?_
              refine RW.nil (EX.seq (CW.ret (EX.seqR ?_)))
              refine EX.fin2 Tryd.results10 rfl rfl (fun wz hw => ?_)
              -- mq: done
              exact ⟨by rw [rlineV_no (fun h => by obtain ⟨_, _, q3, q4, q5⟩ := okSt4.1 h; rw [hh] at q5; rcases q5 with e | e; cases e; exact absurd e (by simpa using h8))], (hw.unbase hx13 hx).ext⟩
            · skip
              have hd0 : d = [] := by simpa using h8
              have hap : (wordsK.getD k [] ++ [32]).length ≤ 7 := by rw [List.length_append]; show _ + 1 ≤ 7; omega
              refine CW.skip (EX.seq (CW.seq (CW.seq (CW.region ?_))))
              refine RW.move rfl rfl ?_
              refine RW.gtr rfl rfl rfl ?_
              refine RW.nil (EX.seq ?_)
              -- mq: cond
              refine CW.condT rfl (rfl) ?_
              refine CW.region ?_
              refine RW.move rfl rfl ?_
              refine RW.catS rfl rfl rfl (by first | omega | (simp only [List.length_append, List.length_cons, List.length_nil]; omega)) ?_
              refine RW.fieldB fl23x1 rfl rfl ?_
              refine RW.loadB1 sc3 rfl rfl (by first | exact Has.head | exact Has.tail Has.head | exact Has.tail (Has.tail Has.head) | exact Has.tail (Has.tail (Has.tail Has.head)) | exact Has.tail (Has.tail (Has.tail (Has.tail Has.head))) | exact Has.tail (Has.tail (Has.tail (Has.tail (Has.tail Has.head)))) | exact Has.tail (Has.tail (Has.tail (Has.tail (Has.tail (Has.tail Has.head)))))) rfl ?_
              refine RW.call rfl ca25 rfl (fun w' _ => refNumber_c w' a ha) ?_
              refine RW.catS rfl rfl rfl (by first | omega | (simp only [List.length_append, List.length_cons, List.length_nil]; omega)) ?_
              refine RW.assign rfl rfl ?_
              refine RW.nil (EX.seq (CW.seq (CW.seq (CW.region ?_))))
              refine RW.move rfl rfl ?_
              refine RW.gtr rfl rfl rfl ?_
              refine RW.nil (EX.seq ?_)
              -- mq: cond
              refine CW.condF rfl (rfl) ?_
              refine CW.skip (EX.seq (CW.seq (CW.seq ?_)))
              -- mq: region
              refine CW.region ?_
              refine RW.fieldB fl23x0 rfl rfl ?_
              refine RW.loadB1 sc3 rfl rfl (by first | exact Has.head | exact Has.tail Has.head | exact Has.tail (Has.tail Has.head) | exact Has.tail (Has.tail (Has.tail Has.head)) | exact Has.tail (Has.tail (Has.tail (Has.tail Has.head))) | exact Has.tail (Has.tail (Has.tail (Has.tail (Has.tail Has.head)))) | exact Has.tail (Has.tail (Has.tail (Has.tail (Has.tail (Has.tail Has.head)))))) rfl ?_
              refine RW.call (v := .bool false) rfl ca24 rfl (fun w' _ => by have h := has_c w' k hk; rw [hh] at h; exact h) ?_
              refine RW.nil (EX.seq ?_)
              -- mq: cond
              refine CW.condF rfl (rfl) ?_
              refine CW.skip (EX.seq (CW.seq (CW.region ?_)))
              refine RW.move rfl rfl ?_
              refine RW.assign rfl rfl ?_
              refine RW.assign rfl rfl ?_
              refine RW.nil (EX.seq (CW.ret ?_))
              refine EX.fin2 Tryd.results10 rfl rfl (fun wz hw => ?_)
              -- mq: done
              refine ⟨?_, (hw.unbase hx13 hx).ext⟩
              rw [rlineV_ok (okSt4.2 ⟨by omega, by omega, .inl (by omega), .inr (by have := h6p; omega), .inr hd0⟩), lineS4, hn, hh]
              simp [joinTwo, Lib.join_one]
        · skip
          refine CW.region ?_
          refine RW.fieldB fl23x0 rfl rfl ?_
          refine RW.loadB1 sc3 rfl rfl (by first | exact Has.head | exact Has.tail Has.head | exact Has.tail (Has.tail Has.head) | exact Has.tail (Has.tail (Has.tail Has.head)) | exact Has.tail (Has.tail (Has.tail (Has.tail Has.head))) | exact Has.tail (Has.tail (Has.tail (Has.tail (Has.tail Has.head)))) | exact Has.tail (Has.tail (Has.tail (Has.tail (Has.tail (Has.tail Has.head)))))) rfl ?_
          refine RW.call (v := .int .i64 1) rfl ca23 rfl (fun w' _ => by have h := nums_c w' k hk; rw [hn] at h; exact h) ?_
          refine RW.assign rfl rfl ?_
          refine RW.nil (EX.seq (CW.seq (CW.seq ?_)))
          -- mq: region
          refine CW.region ?_
          refine RW.move rfl rfl ?_
          refine RW.lss rfl rfl rfl ?_
          refine RW.move rfl rfl ?_
          refine RW.guardF rfl rfl rfl rfl ?_
          refine RW.guardF rfl rfl rfl rfl ?_
          refine RW.guardF rfl rfl rfl rfl ?_
          refine RW.pickC rfl rfl rfl rfl ?_
          refine RW.move rfl rfl ?_
          refine RW.guardT rfl rfl rfl ?_
          refine RW.move rfl rfl ?_
          refine RW.guardT rfl rfl rfl ?_
          refine RW.lss rfl rfl rfl ?_
          refine RW.guardT rfl rfl rfl ?_
          refine RW.move rfl rfl ?_
          refine RW.guardT rfl rfl rfl ?_
          refine RW.fieldB fl23x2 rfl rfl ?_
          refine RW.guardT rfl rfl rfl ?_
          refine RW.loadB1 sc3 rfl rfl (by first | exact Has.head | exact Has.tail Has.head | exact Has.tail (Has.tail Has.head) | exact Has.tail (Has.tail (Has.tail Has.head)) | exact Has.tail (Has.tail (Has.tail (Has.tail Has.head))) | exact Has.tail (Has.tail (Has.tail (Has.tail (Has.tail Has.head)))) | exact Has.tail (Has.tail (Has.tail (Has.tail (Has.tail (Has.tail Has.head)))))) rfl ?_
          refine RW.guardT rfl rfl rfl ?_
          refine RW.neqI rfl rfl rfl ?_
          refine RW.guardT rfl rfl rfl ?_
          refine RW.pickB rfl rfl rfl rfl ?_
          refine RW.pickC rfl rfl rfl rfl ?_
          refine RW.move rfl rfl ?_
          -- mq: guard slot 44
          refine RW.casesB 44 rfl (fun h6 => ?_) (fun h6 => ?_)
          · skip
            have h6p := of_decide_eq_true h6
            refine RW.guardF rfl rfl rfl h6 ?_
            refine RW.guardF rfl rfl rfl h6 ?_
            refine RW.guardF rfl rfl rfl h6 ?_
            refine RW.guardF rfl rfl rfl h6 ?_
            refine RW.guardF rfl rfl rfl h6 ?_
            refine RW.guardU rfl rfl rfl ?_
            refine RW.guardU rfl rfl rfl ?_
            refine RW.guardU rfl rfl rfl ?_
            refine RW.guardF rfl rfl rfl h6 ?_
            refine RW.pickB rfl rfl h6 rfl ?_
            refine RW.nil (EX.seq ?_)
            -- mq: cond
            refine CW.condT rfl (rfl) ?_
            refine CW.seq (CW.region ?_)
            refine RW.assign rfl rfl ?_
            refine RW.assign rfl rfl ?_
            refine RW.nil (EX.seq (CW.ret (EX.seqR ?_)))
            refine EX.fin2 Tryd.results10 rfl rfl (fun wz hw => ?_)
            -- mq: done
            exact ⟨by rw [rlineV_no (fun h => by obtain ⟨_, _, q3, q4, q5⟩ := okSt4.1 h; rw [hn] at q4; have h7 := h6p; omega)], (hw.unbase hx13 hx).ext⟩
          · skip
            have h6p := of_decide_eq_false h6
            refine RW.guardT rfl rfl h6 ?_
            refine RW.fieldB fl23x0 rfl rfl ?_
            refine RW.guardT rfl rfl h6 ?_
            refine RW.loadB1 sc3 rfl rfl (by first | exact Has.head | exact Has.tail Has.head | exact Has.tail (Has.tail Has.head) | exact Has.tail (Has.tail (Has.tail Has.head)) | exact Has.tail (Has.tail (Has.tail (Has.tail Has.head))) | exact Has.tail (Has.tail (Has.tail (Has.tail (Has.tail Has.head)))) | exact Has.tail (Has.tail (Has.tail (Has.tail (Has.tail (Has.tail Has.head)))))) rfl ?_
            refine RW.guardT rfl rfl h6 ?_
            refine RW.call (v := .bool true) rfl ca24 rfl (fun w' _ => by have h := has_c w' k hk; rw [hh] at h; exact h) ?_
            refine RW.guardT rfl rfl h6 ?_
            refine RW.not_ rfl rfl ?_
            refine RW.guardT rfl rfl h6 ?_
            refine RW.move rfl rfl ?_
            refine RW.guardF rfl rfl rfl rfl ?_
            refine RW.guardF rfl rfl rfl rfl ?_
            refine RW.guardF rfl rfl rfl rfl ?_
            refine RW.guardT rfl rfl h6 ?_
            refine RW.pickC rfl rfl rfl rfl ?_
            refine RW.pickC rfl rfl h6 rfl ?_
            refine RW.nil (EX.seq ?_)
            -- mq: cond
            refine CW.condF rfl (rfl) ?_
            have hap : (wordsK.getD k [] ++ [32]).length ≤ 7 := by rw [List.length_append]; show _ + 1 ≤ 7; omega
            refine CW.skip (EX.seq (CW.seq (CW.seq (CW.region ?_))))
            refine RW.move rfl rfl ?_
            refine RW.gtr rfl rfl rfl ?_
            refine RW.nil (EX.seq ?_)
            -- mq: cond
            refine CW.condT rfl (rfl) ?_
            refine CW.region ?_
            refine RW.move rfl rfl ?_
            refine RW.catS rfl rfl rfl (by first | omega | (simp only [List.length_append, List.length_cons, List.length_nil]; omega)) ?_
            refine RW.fieldB fl23x1 rfl rfl ?_
            refine RW.loadB1 sc3 rfl rfl (by first | exact Has.head | exact Has.tail Has.head | exact Has.tail (Has.tail Has.head) | exact Has.tail (Has.tail (Has.tail Has.head)) | exact Has.tail (Has.tail (Has.tail (Has.tail Has.head))) | exact Has.tail (Has.tail (Has.tail (Has.tail (Has.tail Has.head)))) | exact Has.tail (Has.tail (Has.tail (Has.tail (Has.tail (Has.tail Has.head)))))) rfl ?_
            refine RW.call rfl ca25 rfl (fun w' _ => refNumber_c w' a ha) ?_
            refine RW.catS rfl rfl rfl (by first | omega | (simp only [List.length_append, List.length_cons, List.length_nil]; omega)) ?_
            refine RW.assign rfl rfl ?_
            refine RW.nil (EX.seq (CW.seq (CW.seq (CW.region ?_))))
            refine RW.move rfl rfl ?_
            refine RW.gtr rfl rfl rfl ?_
            refine RW.nil (EX.seq ?_)
            -- mq: cond
            refine CW.condF rfl (rfl) ?_
            refine CW.skip (EX.seq (CW.seq (CW.seq ?_)))
            -- mq: region
            refine CW.region ?_
            refine RW.fieldB fl23x0 rfl rfl ?_
            refine RW.loadB1 sc3 rfl rfl (by first | exact Has.head | exact Has.tail Has.head | exact Has.tail (Has.tail Has.head) | exact Has.tail (Has.tail (Has.tail Has.head)) | exact Has.tail (Has.tail (Has.tail (Has.tail Has.head))) | exact Has.tail (Has.tail (Has.tail (Has.tail (Has.tail Has.head)))) | exact Has.tail (Has.tail (Has.tail (Has.tail (Has.tail (Has.tail Has.head)))))) rfl ?_
            refine RW.call (v := .bool true) rfl ca24 rfl (fun w' _ => by have h := has_c w' k hk; rw [hh] at h; exact h) ?_
            refine RW.nil (EX.seq ?_)
            -- mq: cond
            refine CW.condT rfl (rfl) ?_
            refine CW.region ?_
            refine RW.move rfl rfl ?_
            refine RW.catS rfl rfl rfl (by first | omega | (simp only [List.length_append, List.length_cons, List.length_nil]; omega)) ?_
            refine RW.fieldB fl23x3 rfl rfl ?_
            refine RW.loadB1 sc9 rfl rfl (by first | exact Has.head | exact Has.tail Has.head | exact Has.tail (Has.tail Has.head) | exact Has.tail (Has.tail (Has.tail Has.head)) | exact Has.tail (Has.tail (Has.tail (Has.tail Has.head))) | exact Has.tail (Has.tail (Has.tail (Has.tail (Has.tail Has.head)))) | exact Has.tail (Has.tail (Has.tail (Has.tail (Has.tail (Has.tail Has.head)))))) rfl ?_
            refine RW.call rfl ca15 rfl (fun w' _ => refHex_c w' d (by omega)) ?_
            refine RW.catS rfl rfl rfl (by first | omega | (simp only [List.length_append, List.length_cons, List.length_nil]; omega)) ?_
            refine RW.assign rfl rfl ?_
            refine RW.nil (EX.seq (CW.seq (CW.region ?_)))
            refine RW.move rfl rfl ?_
            refine RW.assign rfl rfl ?_
            refine RW.assign rfl rfl ?_
            refine RW.nil (EX.seq (CW.ret ?_))
            refine EX.fin2 Tryd.results10 rfl rfl (fun wz hw => ?_)
            -- mq: done
            refine ⟨?_, (hw.unbase hx13 hx).ext⟩
            rw [rlineV_ok (okSt4.2 ⟨by omega, by omega, .inl (by omega), .inr (by have := h6p; omega), .inl hh⟩), lineS4, hn, hh]
            simp [joinTwo, Lib.join_one]
end Go.Proofs.YtnpafpnameleaaaDoor.Mq
