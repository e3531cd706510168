/- dump: small walks: Id, right, Right, Phase, Phases, places -/
import Derived.Test.YtnkdabjahmjdoaaDoorDd
import Derived.Test.YtnkdabjahmjdoaaDoorTn
namespace Go.Proofs.YtnkdabjahmjdoaaDoor.Mq
open Go Go.RowKit Go.Proofs

theorem wrapU64 {z : Int} (h1 : 0 ≤ z) (h2 : z < 18446744073709551616) : IntKind.u64.wrap z = z := by rw [IntKind.wrap_u64]; omega
theorem dec_len20 {u : Nat} (h : u < 18446744073709551616) : (Lib.decDigits u).length ≤ 20 := dec_len (k := 19) (by omega)
theorem refId_c : ∀ (m : Nat) (w : World) (n : Nat), n ≤ m → n < 18446744073709551616 →
    Calls Tryd.prog 25 [.int .u64 (n : Int)].toArray w (fun e w' => e = .returned (.string (bs (Lib.decDigits n))) ∧ Ext [] w w') := by
  intro m
  induction m using Nat.strongRecOn with
  | _ m ih =>
  intro w n hnm hn
  refine calls (n := 16) Tryd.func25 rfl Tryd.ntmps25 rfl ?_
  refine CW.sub (H' := SH w [] []) ?_ (Sub.refl _) (fun x hx => SH.start' _ _ hx)
  refine CW.seq (CW.region ?_)
  refine RW.assign rfl rfl ?_
  refine RW.nil (EX.seq (CW.seq (CW.seq (CW.region ?_))))
  refine RW.move rfl rfl ?_
  refine RW.lss rfl rfl rfl ?_
  refine RW.nil (EX.seq ?_)
  -- mq: cond
  first | refine CW.condD rfl (fun h0 => ?_) (fun h0 => ?_) | refine CW.cond rfl (fun h0 => ?_) (fun h0 => ?_)
  · skip
    refine CW.seq (CW.region ?_)
    refine RW.move rfl rfl ?_
    refine RW.convI rfl rfl Tryd.underlying22 Tryd.underlying3 (wrap64 (by omega) (by omega)) ?_
    refine RW.call rfl ca40 rfl (fun w' _ => refDigits_c w' n (by omega)) ?_
    refine RW.assign rfl rfl ?_
    refine RW.nil (EX.seq (CW.ret (EX.seqR ?_)))
    refine EX.fin1 Tryd.results25 rfl (fun wz hw => ?_)
    -- mq: done
    exact ⟨rfl, hw.ext⟩
  · skip
    have hl1 := dec_len20 (u := n / 10) (by omega)
    have hl2 := dec_len20 (u := n % 10) (by omega)
    refine CW.skip (EX.seq (CW.seq (CW.region ?_)))
    refine RW.move rfl rfl ?_
    refine RW.quo (r := ((n / 10 : Nat) : Int)) rfl rfl rfl (by decide) (wrapU64 (z := ((n / 10 : Nat) : Int)) (by omega) (by omega)) ?_
    refine RW.call rfl ca25 rfl (fun w' _ => ih (n / 10) (by omega) w' (n / 10) (Nat.le_refl _) (by omega)) ?_
    refine RW.move rfl rfl ?_
    refine RW.remN rfl rfl rfl (by omega) (by omega) ?_
    refine RW.convI rfl rfl Tryd.underlying22 Tryd.underlying3 (wrap64 (by omega) (by omega)) ?_
    refine RW.call rfl ca40 rfl (fun w' _ => refDigits_c w' (n % 10) (by omega)) ?_
    refine RW.catS rfl rfl rfl (by first | omega | (simp only [List.length_append, List.length_cons, List.length_nil]; omega)) ?_
    refine RW.assign rfl rfl ?_
    refine RW.nil (EX.seq (CW.ret ?_))
    refine EX.fin1 Tryd.results25 rfl (fun wz hw => ?_)
    -- mq: done
    refine ⟨?_, hw.ext⟩
    rw [dec_big (u := n) (by omega), dec_small (u := n % 10) (by omega)]
abbrev posV (p : Int × Int) : Value := .agg [.int .i64 p.1, .int .i64 p.2].toArray
theorem right_c (w : World) (a b : Int) : Calls Tryd.prog 53 [posV (a, b)].toArray w (fun e w' => e = .returned (.bool (rightP (a, b))) ∧ Ext [] w w') := by
  refine calls (n := 21) Tryd.func53 rfl Tryd.ntmps53 rfl ?_
  refine CW.sub (H' := SH w [] []) ?_ (Sub.refl _) (fun x hx => SH.start' _ _ hx)
  refine CW.seq (CW.region ?_)
  refine RW.boxA rfl rfl (fun g1 hg1 hf1 => ?_)
  refine RW.assign rfl rfl ?_
  refine RW.nil (EX.seq (CW.seq (CW.region ?_)))
  refine RW.fieldB fl24x0 rfl rfl ?_
  refine RW.loadB1 sc3 rfl rfl (by first | exact Has.head | exact Has.tail Has.head | exact Has.tail (Has.tail Has.head) | exact Has.tail (Has.tail (Has.tail Has.head)) | exact Has.tail (Has.tail (Has.tail (Has.tail Has.head))) | exact Has.tail (Has.tail (Has.tail (Has.tail (Has.tail Has.head)))) | exact Has.tail (Has.tail (Has.tail (Has.tail (Has.tail (Has.tail Has.head)))))) rfl ?_
  refine RW.geq rfl rfl rfl ?_
  refine RW.move rfl rfl ?_
  -- mq: guard slot 6
  refine RW.casesB 6 rfl (fun h1 => ?_) (fun h1 => ?_)
  · skip
    have h1p := of_decide_eq_true h1
    refine RW.guardT rfl rfl h1 ?_
    refine RW.fieldB fl24x0 rfl rfl ?_
    refine RW.guardT rfl rfl h1 ?_
    refine RW.loadB1 sc3 rfl rfl (by first | exact Has.head | exact Has.tail Has.head | exact Has.tail (Has.tail Has.head) | exact Has.tail (Has.tail (Has.tail Has.head)) | exact Has.tail (Has.tail (Has.tail (Has.tail Has.head))) | exact Has.tail (Has.tail (Has.tail (Has.tail (Has.tail Has.head)))) | exact Has.tail (Has.tail (Has.tail (Has.tail (Has.tail (Has.tail Has.head)))))) rfl ?_
    refine RW.guardT rfl rfl h1 ?_
    refine RW.leq rfl rfl rfl ?_
    refine RW.pickB rfl rfl h1 rfl ?_
    refine RW.move rfl rfl ?_
    -- mq: guard slot 11
    refine RW.casesB 11 rfl (fun h2 => ?_) (fun h2 => ?_)
    · skip
      have h2p := of_decide_eq_true h2
      refine RW.guardT rfl rfl h2 ?_
      refine RW.fieldB fl24x1 rfl rfl ?_
      refine RW.guardT rfl rfl h2 ?_
      refine RW.loadB1 sc3 rfl rfl (by first | exact Has.head | exact Has.tail Has.head | exact Has.tail (Has.tail Has.head) | exact Has.tail (Has.tail (Has.tail Has.head)) | exact Has.tail (Has.tail (Has.tail (Has.tail Has.head))) | exact Has.tail (Has.tail (Has.tail (Has.tail (Has.tail Has.head)))) | exact Has.tail (Has.tail (Has.tail (Has.tail (Has.tail (Has.tail Has.head)))))) rfl ?_
      refine RW.guardT rfl rfl h2 ?_
      refine RW.geq rfl rfl rfl ?_
      refine RW.pickB rfl rfl h2 rfl ?_
      refine RW.move rfl rfl ?_
      -- mq: guard slot 16
      refine RW.casesB 16 rfl (fun h3 => ?_) (fun h3 => ?_)
      · skip
        have h3p := of_decide_eq_true h3
        refine RW.guardT rfl rfl h3 ?_
        refine RW.fieldB fl24x1 rfl rfl ?_
        refine RW.guardT rfl rfl h3 ?_
        refine RW.loadB1 sc3 rfl rfl (by first | exact Has.head | exact Has.tail Has.head | exact Has.tail (Has.tail Has.head) | exact Has.tail (Has.tail (Has.tail Has.head)) | exact Has.tail (Has.tail (Has.tail (Has.tail Has.head))) | exact Has.tail (Has.tail (Has.tail (Has.tail (Has.tail Has.head)))) | exact Has.tail (Has.tail (Has.tail (Has.tail (Has.tail (Has.tail Has.head)))))) rfl ?_
        refine RW.guardT rfl rfl h3 ?_
        refine RW.leq rfl rfl rfl ?_
        refine RW.pickB rfl rfl h3 rfl ?_
        refine RW.assign rfl rfl ?_
        refine RW.nil (EX.seq (CW.ret ?_))
        refine EX.fin1 Tryd.results53 rfl (fun wz hw => ?_)
        -- mq: done
        refine ⟨?_, hw.ext⟩
        unfold rightP
        congr 2
        rw [decide_eq_decide]; omega
      · skip
        have h3p := of_decide_eq_false h3
        refine RW.guardF rfl rfl rfl h3 ?_
        refine RW.guardF rfl rfl rfl h3 ?_
        refine RW.guardF rfl rfl rfl h3 ?_
        refine RW.pickC rfl rfl h3 rfl ?_
        refine RW.assign rfl rfl ?_
        refine RW.nil (EX.seq (CW.ret ?_))
        refine EX.fin1 Tryd.results53 rfl (fun wz hw => ?_)
        -- mq: done
        refine ⟨?_, hw.ext⟩
        unfold rightP
        congr 2
        rw [eq_comm, decide_eq_false_iff_not]; omega
    · skip
      have h2p := of_decide_eq_false h2
      refine RW.guardF rfl rfl rfl h2 ?_
      refine RW.guardF rfl rfl rfl h2 ?_
      refine RW.guardF rfl rfl rfl h2 ?_
      refine RW.pickC rfl rfl h2 rfl ?_
      refine RW.move rfl rfl ?_
      refine RW.guardF rfl rfl rfl rfl ?_
      refine RW.guardF rfl rfl rfl rfl ?_
      refine RW.guardF rfl rfl rfl rfl ?_
      refine RW.pickC rfl rfl rfl rfl ?_
      refine RW.assign rfl rfl ?_
      refine RW.nil (EX.seq (CW.ret ?_))
      refine EX.fin1 Tryd.results53 rfl (fun wz hw => ?_)
      -- mq: done
      refine ⟨?_, hw.ext⟩
      unfold rightP
      congr 2
      rw [eq_comm, decide_eq_false_iff_not]; omega
  · skip
    have h1p := of_decide_eq_false h1
    refine RW.guardF rfl rfl rfl h1 ?_
    refine RW.guardF rfl rfl rfl h1 ?_
    refine RW.guardF rfl rfl rfl h1 ?_
    refine RW.pickC rfl rfl h1 rfl ?_
    refine RW.move rfl rfl ?_
    refine RW.guardF rfl rfl rfl rfl ?_
    refine RW.guardF rfl rfl rfl rfl ?_
    refine RW.guardF rfl rfl rfl rfl ?_
    refine RW.pickC rfl rfl rfl rfl ?_
    refine RW.move rfl rfl ?_
    refine RW.guardF rfl rfl rfl rfl ?_
    refine RW.guardF rfl rfl rfl rfl ?_
    refine RW.guardF rfl rfl rfl rfl ?_
    refine RW.pickC rfl rfl rfl rfl ?_
    refine RW.assign rfl rfl ?_
    refine RW.nil (EX.seq (CW.ret ?_))
    refine EX.fin1 Tryd.results53 rfl (fun wz hw => ?_)
    -- mq: done
    refine ⟨?_, hw.ext⟩
    unfold rightP
    congr 2
    rw [eq_comm, decide_eq_false_iff_not]; omega
theorem refRight_c (w : World) (a : Int) : Calls Tryd.prog 32 [.int .i64 a].toArray w (fun e w' => e = .returned (.bool (decide (0 ≤ a ∧ a ≤ 1099511627776))) ∧ Ext [] w w') := by
  refine calls (n := 9) Tryd.func32 rfl Tryd.ntmps32 rfl ?_
  refine CW.sub (H' := SH w [] []) ?_ (Sub.refl _) (fun x hx => SH.start' _ _ hx)
  refine CW.seq (CW.region ?_)
  refine RW.assign rfl rfl ?_
  refine RW.nil (EX.seq (CW.seq (CW.region ?_)))
  refine RW.move rfl rfl ?_
  refine RW.geq rfl rfl rfl ?_
  refine RW.move rfl rfl ?_
  -- mq: guard slot 5
  refine RW.casesB 5 rfl (fun h1 => ?_) (fun h1 => ?_)
  · skip
    have h1p := of_decide_eq_true h1
    refine RW.guardT rfl rfl h1 ?_
    refine RW.move rfl rfl ?_
    refine RW.guardT rfl rfl h1 ?_
    refine RW.leq rfl rfl rfl ?_
    refine RW.pickB rfl rfl h1 rfl ?_
    refine RW.assign rfl rfl ?_
    refine RW.nil (EX.seq (CW.ret ?_))
    refine EX.fin1 Tryd.results32 rfl (fun wz hw => ?_)
    -- mq: done
    refine ⟨?_, hw.ext⟩
    congr 2
    rw [decide_eq_decide]; omega
  · skip
    have h1p := of_decide_eq_false h1
    refine RW.guardF rfl rfl rfl h1 ?_
    refine RW.guardF rfl rfl rfl h1 ?_
    refine RW.pickC rfl rfl h1 rfl ?_
    refine RW.assign rfl rfl ?_
    refine RW.nil (EX.seq (CW.ret ?_))
    refine EX.fin1 Tryd.results32 rfl (fun wz hw => ?_)
    -- mq: done
    refine ⟨?_, hw.ext⟩
    congr 2
    rw [eq_comm, decide_eq_false_iff_not]; omega
theorem phase_c (w : World) (n : Int) : Calls Tryd.prog 11 [.int .i64 n].toArray w (fun e w' => e = .returned (.tuple #[.string (bs (phaseW n)), .bool (decide (0 ≤ n ∧ n ≤ 4))]) ∧ Ext [] w w') := by
  refine calls (n := 15) Tryd.func11 rfl Tryd.ntmps11 rfl ?_
  refine CW.sub (H' := SH w [] []) ?_ (Sub.refl _) (fun x hx => SH.start' _ _ hx)
  refine CW.seq (CW.region ?_)
  refine RW.assign rfl rfl ?_
  refine RW.assign rfl rfl ?_
  refine RW.nil (EX.seq (CW.seq (CW.region ?_)))
  refine RW.buildR ba50 rfl rfl rfl ?_
  refine RW.allocA ag50 rfl (fun g4 hg4 hf4 => ?_)
  refine RW.storeA ag50 rfl rfl (by first | exact Upd.head | exact Upd.tail Upd.head | exact Upd.tail (Upd.tail Upd.head) | exact Upd.tail (Upd.tail (Upd.tail Upd.head)) | exact Upd.tail (Upd.tail (Upd.tail (Upd.tail Upd.head))) | exact Upd.tail (Upd.tail (Upd.tail (Upd.tail (Upd.tail Upd.head)))) | exact Upd.tail (Upd.tail (Upd.tail (Upd.tail (Upd.tail (Upd.tail Upd.head)))))) (by first | rfl | exact Enc.len _ _) (by repeat (first | exact Ones.nil | exact Enc.ones _ _ | refine Ones.cons rfl ?_)) (by first | exact Nat.le_of_ble_eq_true rfl | (simp only [Enc.len]; decide)) ?_
  refine RW.nil (EX.seq (CW.seq (CW.seq (CW.region ?_))))
  refine RW.move rfl rfl ?_
  refine RW.lss rfl rfl rfl ?_
  refine RW.move rfl rfl ?_
  -- mq: guard slot 8
  refine RW.casesB 8 rfl (fun h1 => ?_) (fun h1 => ?_)
  · skip
    have h1p := of_decide_eq_true h1
    refine RW.guardF rfl rfl rfl h1 ?_
    refine RW.guardF rfl rfl rfl h1 ?_
    refine RW.pickB rfl rfl h1 rfl ?_
    refine RW.nil (EX.seq ?_)
    -- mq: cond
    refine CW.condT rfl (rfl) ?_
    refine CW.seq (CW.region ?_)
    refine RW.assign rfl rfl ?_
    refine RW.assign rfl rfl ?_
    refine RW.nil (EX.seq (CW.ret (EX.seqR ?_)))
    refine EX.fin2 Tryd.results11 rfl rfl (fun wz hw => ?_)
    -- mq: done
    refine ⟨?_, hw.ext⟩
    rw [decide_eq_false (by omega), phaseW, if_neg (by omega), if_neg (by omega), if_neg (by omega), if_neg (by omega), if_neg (by omega)]
  · skip
    have h1p := of_decide_eq_false h1
    refine RW.guardT rfl rfl h1 ?_
    refine RW.move rfl rfl ?_
    refine RW.guardT rfl rfl h1 ?_
    refine RW.geq rfl rfl rfl ?_
    refine RW.pickC rfl rfl h1 rfl ?_
    refine RW.nil (EX.seq ?_)
    -- mq: cond
    first | refine CW.condD rfl (fun h2 => ?_) (fun h2 => ?_) | refine CW.cond rfl (fun h2 => ?_) (fun h2 => ?_)
    · skip
      refine CW.seq (CW.region ?_)
      refine RW.assign rfl rfl ?_
      refine RW.assign rfl rfl ?_
      refine RW.nil (EX.seq (CW.ret (EX.seqR ?_)))
      refine EX.fin2 Tryd.results11 rfl rfl (fun wz hw => ?_)
      -- mq: done
      refine ⟨?_, hw.ext⟩
      rw [decide_eq_false (by omega), phaseW, if_neg (by omega), if_neg (by omega), if_neg (by omega), if_neg (by omega), if_neg (by omega)]
    · skip
      rcases (show n = 0 ∨ n = 1 ∨ n = 2 ∨ n = 3 ∨ n = 4 by omega) with rfl | rfl | rfl | rfl | rfl
      · skip
        refine CW.skip (EX.seq (CW.seq (CW.region ?_)))
        refine RW.move rfl rfl ?_
        refine RW.ixArr (q := 0) Tryd.underlying50 ar50 rfl rfl rfl (by omega) (by omega) ?_
        -- mq: at
        refine RW.loadB1 sc9 rfl rfl (by first | exact Has.head | exact Has.tail Has.head | exact Has.tail (Has.tail Has.head) | exact Has.tail (Has.tail (Has.tail Has.head)) | exact Has.tail (Has.tail (Has.tail (Has.tail Has.head))) | exact Has.tail (Has.tail (Has.tail (Has.tail (Has.tail Has.head)))) | exact Has.tail (Has.tail (Has.tail (Has.tail (Has.tail (Has.tail Has.head)))))) rfl ?_
        refine RW.assign rfl rfl ?_
        refine RW.assign rfl rfl ?_
        refine RW.nil (EX.seq (CW.ret ?_))
        refine EX.fin2 Tryd.results11 rfl rfl (fun wz hw => ?_)
        -- mq: done
        exact ⟨rfl, hw.ext⟩
      · skip
        refine CW.skip (EX.seq (CW.seq (CW.region ?_)))
        refine RW.move rfl rfl ?_
        refine RW.ixArr (q := 1) Tryd.underlying50 ar50 rfl rfl rfl (by omega) (by omega) ?_
        -- mq: at
        refine RW.loadB1 sc9 rfl rfl (by first | exact Has.head | exact Has.tail Has.head | exact Has.tail (Has.tail Has.head) | exact Has.tail (Has.tail (Has.tail Has.head)) | exact Has.tail (Has.tail (Has.tail (Has.tail Has.head))) | exact Has.tail (Has.tail (Has.tail (Has.tail (Has.tail Has.head)))) | exact Has.tail (Has.tail (Has.tail (Has.tail (Has.tail (Has.tail Has.head)))))) rfl ?_
        refine RW.assign rfl rfl ?_
        refine RW.assign rfl rfl ?_
        refine RW.nil (EX.seq (CW.ret ?_))
        refine EX.fin2 Tryd.results11 rfl rfl (fun wz hw => ?_)
        -- mq: done
        exact ⟨rfl, hw.ext⟩
      · skip
        refine CW.skip (EX.seq (CW.seq (CW.region ?_)))
        refine RW.move rfl rfl ?_
        refine RW.ixArr (q := 2) Tryd.underlying50 ar50 rfl rfl rfl (by omega) (by omega) ?_
        -- mq: at
        refine RW.loadB1 sc9 rfl rfl (by first | exact Has.head | exact Has.tail Has.head | exact Has.tail (Has.tail Has.head) | exact Has.tail (Has.tail (Has.tail Has.head)) | exact Has.tail (Has.tail (Has.tail (Has.tail Has.head))) | exact Has.tail (Has.tail (Has.tail (Has.tail (Has.tail Has.head)))) | exact Has.tail (Has.tail (Has.tail (Has.tail (Has.tail (Has.tail Has.head)))))) rfl ?_
        refine RW.assign rfl rfl ?_
        refine RW.assign rfl rfl ?_
        refine RW.nil (EX.seq (CW.ret ?_))
        refine EX.fin2 Tryd.results11 rfl rfl (fun wz hw => ?_)
        -- mq: done
        exact ⟨rfl, hw.ext⟩
      · skip
        refine CW.skip (EX.seq (CW.seq (CW.region ?_)))
        refine RW.move rfl rfl ?_
        refine RW.ixArr (q := 3) Tryd.underlying50 ar50 rfl rfl rfl (by omega) (by omega) ?_
        -- mq: at
        refine RW.loadB1 sc9 rfl rfl (by first | exact Has.head | exact Has.tail Has.head | exact Has.tail (Has.tail Has.head) | exact Has.tail (Has.tail (Has.tail Has.head)) | exact Has.tail (Has.tail (Has.tail (Has.tail Has.head))) | exact Has.tail (Has.tail (Has.tail (Has.tail (Has.tail Has.head)))) | exact Has.tail (Has.tail (Has.tail (Has.tail (Has.tail (Has.tail Has.head)))))) rfl ?_
        refine RW.assign rfl rfl ?_
        refine RW.assign rfl rfl ?_
        refine RW.nil (EX.seq (CW.ret ?_))
        refine EX.fin2 Tryd.results11 rfl rfl (fun wz hw => ?_)
        -- mq: done
        exact ⟨rfl, hw.ext⟩
      · skip
        refine CW.skip (EX.seq (CW.seq (CW.region ?_)))
        refine RW.move rfl rfl ?_
        refine RW.ixArr (q := 4) Tryd.underlying50 ar50 rfl rfl rfl (by omega) (by omega) ?_
        -- mq: at
        refine RW.loadB1 sc9 rfl rfl (by first | exact Has.head | exact Has.tail Has.head | exact Has.tail (Has.tail Has.head) | exact Has.tail (Has.tail (Has.tail Has.head)) | exact Has.tail (Has.tail (Has.tail (Has.tail Has.head))) | exact Has.tail (Has.tail (Has.tail (Has.tail (Has.tail Has.head)))) | exact Has.tail (Has.tail (Has.tail (Has.tail (Has.tail (Has.tail Has.head)))))) rfl ?_
        refine RW.assign rfl rfl ?_
        refine RW.assign rfl rfl ?_
        refine RW.nil (EX.seq (CW.ret ?_))
        refine EX.fin2 Tryd.results11 rfl rfl (fun wz hw => ?_)
        -- mq: done
        exact ⟨rfl, hw.ext⟩
def phasesL : List (List UInt8) := [phaseW 0, phaseW 1, phaseW 2, phaseW 3, phaseW 4]
theorem phasesL_at {n : Nat} (h : n ≤ 4) : phasesL[n]? = some (phaseW (n : Int)) := by
  rcases (show n = 0 ∨ n = 1 ∨ n = 2 ∨ n = 3 ∨ n = 4 by omega) with rfl | rfl | rfl | rfl | rfl <;> rfl
theorem phases_c (w : World) : Calls Tryd.prog 14 [].toArray w (RetSl EStr w phasesL) := by
  refine calls (n := 2) Tryd.func14 rfl Tryd.ntmps14 rfl ?_
  refine CW.sub (H' := SH w [] []) ?_ (Sub.refl _) (fun x hx => SH.start' _ _ hx)
  refine CW.seq (CW.region ?_)
  refine RW.assign rfl rfl ?_
  refine RW.nil (EX.seq (CW.seq (CW.region ?_)))
  refine RW.buildSlc sl33 rfl rfl rfl rfl (fun g1 hg1 hf1 => ?_)
  refine RW.assign rfl rfl ?_
  refine RW.nil (EX.seq (CW.ret ?_))
  refine EX.fin1 Tryd.results14 rfl (fun wz hw => ?_)
  -- mq: done
  have hrd := Rd.of_blk (E := EStr) (L := phasesL) hw Has.head rfl (by decide)
  exact ⟨_, _, _, rfl, hw.ext, hrd.weak (fun k hk => by rw [hk]; assumption)⟩
def ptrs (g : Nat) : List Value := [.pointer (some ⟨g, 2, none⟩), .pointer (some ⟨g, 4, none⟩), .pointer (some ⟨g, 6, none⟩), .pointer (some ⟨g, 8, none⟩), .pointer (some ⟨g, 10, none⟩)]
theorem places_c (w : World) (g : Nat) : Calls Tryd.prog 28 [.pointer (some ⟨g, 0, none⟩)].toArray w (fun e w' => e = .returned (.agg (ptrs g).toArray) ∧ Ext [] w w') := by
  refine calls (n := 19) Tryd.func28 rfl Tryd.ntmps28 rfl ?_
  refine CW.sub (H' := SH w [] []) ?_ (Sub.refl _) (fun x hx => SH.start' _ _ hx)
  refine CW.seq (CW.region ?_)
  refine RW.allocA ag56 rfl (fun g2 hg2 hf2 => ?_)
  refine RW.nil (EX.seq (CW.seq ?_))
  -- mq: region
  refine CW.drawU [0, 1, 2, 3, 4, 5, 6, 7, 8, 9, 10, 11, 12, 13, 14, 15] 1 [[(16, false, [])]] (fun _ => True) mixed (by kernel_rfl) (fun _ hw => hw.drew) (fun _ h => (by first | trivial | exact h | exact h.ch | exact (h.rem Rem.head).ch | exact ((h.rem Rem.head).rem Rem.head).ch | exact (((h.rem Rem.head).rem Rem.head).rem Rem.head).ch)) ?_
  refine QuP.cons rfl (fun wq hq => (RW.move rfl rfl RW.jn)) ?_
  refine QuP.cons rfl (fun wq hq => (RW.nilChk rfl rfl RW.jn)) ?_
  refine QuP.cons rfl (fun wq hq => (RW.fieldB fl26x2 rfl rfl RW.jn)) ?_
  refine QuP.cons rfl (fun wq hq => (RW.move rfl rfl RW.jn)) ?_
  refine QuP.cons rfl (fun wq hq => (RW.nilChk rfl rfl RW.jn)) ?_
  refine QuP.cons rfl (fun wq hq => (RW.fieldB fl26x3 rfl rfl RW.jn)) ?_
  refine QuP.cons rfl (fun wq hq => (RW.move rfl rfl RW.jn)) ?_
  refine QuP.cons rfl (fun wq hq => (RW.nilChk rfl rfl RW.jn)) ?_
  refine QuP.cons rfl (fun wq hq => (RW.fieldB fl26x4 rfl rfl RW.jn)) ?_
  refine QuP.cons rfl (fun wq hq => (RW.move rfl rfl RW.jn)) ?_
  refine QuP.cons rfl (fun wq hq => (RW.nilChk rfl rfl RW.jn)) ?_
  refine QuP.cons rfl (fun wq hq => (RW.fieldB fl26x5 rfl rfl RW.jn)) ?_
  refine QuP.cons rfl (fun wq hq => (RW.move rfl rfl RW.jn)) ?_
  refine QuP.cons rfl (fun wq hq => (RW.nilChk rfl rfl RW.jn)) ?_
  refine QuP.cons rfl (fun wq hq => (RW.fieldB fl26x6 rfl rfl RW.jn)) ?_
  refine QuP.cons rfl (fun wq hq => (RW.buildR ba56 rfl rfl rfl RW.jn)) ?_
  refine QuP.nil ?_
  refine UW.step [_] rfl (List.forall_mem_cons.2 ⟨?_, by simp⟩)
  refine RW.storeA ag56 rfl rfl (by first | exact Upd.head | exact Upd.tail Upd.head | exact Upd.tail (Upd.tail Upd.head) | exact Upd.tail (Upd.tail (Upd.tail Upd.head)) | exact Upd.tail (Upd.tail (Upd.tail (Upd.tail Upd.head))) | exact Upd.tail (Upd.tail (Upd.tail (Upd.tail (Upd.tail Upd.head)))) | exact Upd.tail (Upd.tail (Upd.tail (Upd.tail (Upd.tail (Upd.tail Upd.head)))))) (by first | rfl | exact Enc.len _ _) (by repeat (first | exact Ones.nil | exact Enc.ones _ _ | refine Ones.cons rfl ?_)) (by first | exact Nat.le_of_ble_eq_true rfl | (simp only [Enc.len]; decide)) ?_
  refine RW.st (fun _ => True) (fun _ h => .inr (by first | trivial | exact h | exact h.ch | exact (h.rem Rem.head).ch | exact ((h.rem Rem.head).rem Rem.head).ch | exact (((h.rem Rem.head).rem Rem.head).rem Rem.head).ch)) (fun _ h => trivial) ?_
  refine QuP.nil ?_
  refine UW.nil (EX.seq (CW.ret ?_))
  refine EX.fin1' Tryd.results28 (RV.cellA ag56 rfl (by first | exact Has.head | exact Has.tail Has.head | exact Has.tail (Has.tail Has.head) | exact Has.tail (Has.tail (Has.tail Has.head)) | exact Has.tail (Has.tail (Has.tail (Has.tail Has.head))) | exact Has.tail (Has.tail (Has.tail (Has.tail (Has.tail Has.head)))) | exact Has.tail (Has.tail (Has.tail (Has.tail (Has.tail (Has.tail Has.head)))))) rfl rfl) (fun wz hw => ?_)
  -- mq: done
  exact ⟨rfl, hw.ext⟩
def EPs : Enc (Int × Int) := ⟨fun p => [.int .i64 p.1, .int .i64 p.2], 2, fun _ => rfl, fun _ => by repeat (first | exact Ones.nil | refine Ones.cons rfl ?_)⟩
theorem refPlaces_c (w : World) (b : BlkV) : Calls Tryd.prog 31 [.agg b.cells.toArray].toArray w (RetSl EPs w b.pos) := by
  refine calls (n := 14) Tryd.func31 rfl Tryd.ntmps31 rfl ?_
  refine CW.sub (H' := SH w [] []) ?_ (Sub.refl _) (fun x hx => SH.start' _ _ hx)
  refine CW.seq (CW.region ?_)
  refine RW.boxA rfl rfl (fun g1 hg1 hf1 => ?_)
  refine RW.assign rfl rfl ?_
  refine RW.nil (EX.seq (CW.seq (CW.region ?_)))
  refine RW.fieldB fl26x2 rfl rfl ?_
  refine RW.loadBA ag24 rfl rfl (by first | exact Has.head | exact Has.tail Has.head | exact Has.tail (Has.tail Has.head) | exact Has.tail (Has.tail (Has.tail Has.head)) | exact Has.tail (Has.tail (Has.tail (Has.tail Has.head))) | exact Has.tail (Has.tail (Has.tail (Has.tail (Has.tail Has.head)))) | exact Has.tail (Has.tail (Has.tail (Has.tail (Has.tail (Has.tail Has.head)))))) rfl rfl ?_
  refine RW.fieldB fl26x3 rfl rfl ?_
  refine RW.loadBA ag24 rfl rfl (by first | exact Has.head | exact Has.tail Has.head | exact Has.tail (Has.tail Has.head) | exact Has.tail (Has.tail (Has.tail Has.head)) | exact Has.tail (Has.tail (Has.tail (Has.tail Has.head))) | exact Has.tail (Has.tail (Has.tail (Has.tail (Has.tail Has.head)))) | exact Has.tail (Has.tail (Has.tail (Has.tail (Has.tail (Has.tail Has.head)))))) rfl rfl ?_
  refine RW.fieldB fl26x4 rfl rfl ?_
  refine RW.loadBA ag24 rfl rfl (by first | exact Has.head | exact Has.tail Has.head | exact Has.tail (Has.tail Has.head) | exact Has.tail (Has.tail (Has.tail Has.head)) | exact Has.tail (Has.tail (Has.tail (Has.tail Has.head))) | exact Has.tail (Has.tail (Has.tail (Has.tail (Has.tail Has.head)))) | exact Has.tail (Has.tail (Has.tail (Has.tail (Has.tail (Has.tail Has.head)))))) rfl rfl ?_
  refine RW.fieldB fl26x5 rfl rfl ?_
  refine RW.loadBA ag24 rfl rfl (by first | exact Has.head | exact Has.tail Has.head | exact Has.tail (Has.tail Has.head) | exact Has.tail (Has.tail (Has.tail Has.head)) | exact Has.tail (Has.tail (Has.tail (Has.tail Has.head))) | exact Has.tail (Has.tail (Has.tail (Has.tail (Has.tail Has.head)))) | exact Has.tail (Has.tail (Has.tail (Has.tail (Has.tail (Has.tail Has.head)))))) rfl rfl ?_
  refine RW.fieldB fl26x6 rfl rfl ?_
  refine RW.loadBA ag24 rfl rfl (by first | exact Has.head | exact Has.tail Has.head | exact Has.tail (Has.tail Has.head) | exact Has.tail (Has.tail (Has.tail Has.head)) | exact Has.tail (Has.tail (Has.tail (Has.tail Has.head))) | exact Has.tail (Has.tail (Has.tail (Has.tail (Has.tail Has.head)))) | exact Has.tail (Has.tail (Has.tail (Has.tail (Has.tail (Has.tail Has.head)))))) rfl rfl ?_
  refine RW.buildSlc sl61 rfl rfl rfl rfl (fun g13 hg13 hf13 => ?_)
  refine RW.assign rfl rfl ?_
  refine RW.nil (EX.seq (CW.ret ?_))
  refine EX.fin1 Tryd.results31 rfl (fun wz hw => ?_)
  -- mq: done
  have hrd := Rd.of_blk (E := EPs) (L := b.pos) hw Has.head rfl (by show 5 ≤ maxLen; decide)
  exact ⟨_, _, _, rfl, hw.ext, hrd.weak (fun k hk => by rw [hk]; assumption)⟩
end Go.Proofs.YtnkdabjahmjdoaaDoor.Mq
