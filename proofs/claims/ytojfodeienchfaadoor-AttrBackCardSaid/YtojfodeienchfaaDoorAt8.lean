/- attributes: the walk of behind -/
import Derived.Test.YtojfodeienchfaaDoorAt7
namespace Go.Proofs.YtojfodeienchfaaDoor.Mq
open Go Go.RowKit Go.Proofs

def needF (gs : List (List Int)) (i : Nat) : Nat := if firstV gs (i + 1) = 5 then 1 else if firstV gs (i + 1) = 2 then 3 else 0
def nextL (gs : List (List Int)) (i m : Nat) : List Int := (List.range m).map (fun k => firstV gs (i + 2 + k))
theorem nextL_snoc (gs : List (List Int)) (i k : Nat) : nextL gs i (k + 1) = nextL gs i k ++ [firstV gs (i + 2 + k)] := by simp [nextL, List.range_succ]
theorem nextL_len (gs : List (List Int)) (i m : Nat) : (nextL gs i m).length = m := by simp [nextL]
theorem needF_le (gs : List (List Int)) (i : Nat) : needF gs i ≤ 3 := by unfold needF; repeat (first | decide | split)
/-- the color of the groups behind one, and how many are done with -/
def behF (gs : List (List Int)) (i : Nat) : Option (Int × Int) × Nat :=
  if gs.length ≤ i + 1 + needF gs i then (none, gs.length - 1 - i) else if needF gs i = 0 then (none, 1) else (b3 (nextL gs i (needF gs i)), 1 + needF gs i)
theorem behind_c (w : World) (F : Nat → Prop) (A : Option Addr) (n c : Nat) (gs : List (List Int)) (hr : RdG w F A n c gs) (hc : Cl gs) (i : Nat) (hi : i < n) :
    Calls Tryd.prog 25 [.slice A n c, .int .i64 (i : Int)].toArray w (fun e w' => e = .returned (.tuple [colV ((behF gs i).1.getD (0, 0)).1 ((behF gs i).1.getD (0, 0)).2, Value.bool (behF gs i).1.isSome, Value.int .i64 ((behF gs i).2 : Int)].toArray) ∧ Ext [] w w') := by
  have hl := hr.len
  have h32 := hc.1
  have hne := needF_le gs i
  refine calls (n := 59) Tryd.func25 rfl Tryd.ntmps25 rfl ?_
  refine CW.sub (H' := SH w [] []) ?_ (Sub.refl _) (fun x hx => SH.start' _ _ hx)
  refine CW.seq (CW.region ?_)
  refine RW.allocA ag23 rfl (fun g4 hg4 hf4 => ?_)
  refine RW.assign rfl rfl ?_
  refine RW.assign rfl rfl ?_
  refine RW.nil (EX.seq (CW.seq (CW.region ?_)))
  refine RW.assign rfl rfl ?_
  refine RW.nil (EX.seq (CW.seq ?_))
  -- mq: seq
  refine CW.join ([(7, .int .i64 (needF gs i : Int)), (0, .slice A n c), (1, .int .i64 (i : Int)), (4, .pointer (some ⟨g4, 0, none⟩))]) (SH w [] [blk g4 [.int .i64 0, .int .i64 0] 23]) ?_ ?_
  · skip
    refine CW.seq (CW.region ?_)
    refine RW.move rfl rfl ?_
    refine RW.move rfl rfl ?_
    refine RW.add rfl rfl rfl (wrap64 (by omega) (by omega)) ?_
    refine RW.call rfl ca22 rfl (fun w' hw' => first_c w' _ _ _ _ gs (hr.ext hw'.ext (by simp)) hc (i + 1) (by omega)) ?_
    refine RW.nil (EX.seq (CW.block (CW.seq (CW.region ?_))))
    refine RW.eqlI rfl rfl rfl ?_
    refine RW.assign rfl rfl ?_
    refine RW.nil (EX.seq ?_)
    -- mq: cond
    first | refine CW.condD rfl (fun h1 => ?_) (fun h1 => ?_) | refine CW.cond rfl (fun h1 => ?_) (fun h1 => ?_)
    · skip
      refine CW.region ?_
      refine RW.assign rfl rfl ?_
      refine RW.nil (EX.bkN ?_)
      -- mq: joinend
      rw [needF, if_pos h1]
      exact EX.jn (by repeat (first | exact Sub.nil | refine Sub.cons (by rfl) ?_)) (fun _ h => h)
    · skip
      refine CW.seq (CW.region ?_)
      refine RW.eqlI rfl rfl rfl ?_
      refine RW.assign rfl rfl ?_
      refine RW.nil (EX.seq ?_)
      -- mq: cond
      first | refine CW.condD rfl (fun h2 => ?_) (fun h2 => ?_) | refine CW.cond rfl (fun h2 => ?_) (fun h2 => ?_)
      · skip
        refine CW.region ?_
        refine RW.assign rfl rfl ?_
        refine RW.nil (EX.bkN ?_)
        -- mq: joinend
        rw [needF, if_neg h1, if_pos h2]
        exact EX.jn (by repeat (first | exact Sub.nil | refine Sub.cons (by rfl) ?_)) (fun _ h => h)
      · skip
        refine CW.skip (EX.bkN ?_)
        -- mq: joinend
        rw [needF, if_neg h1, if_neg h2]
        exact EX.jn (by repeat (first | exact Sub.nil | refine Sub.cons (by rfl) ?_)) (fun _ h => h)
  · skip
    generalize hm : needF gs i = m at hne
    refine EX.seq (CW.seq (CW.seq (CW.region ?_)))
    refine RW.move rfl rfl ?_
    refine RW.add rfl rfl rfl (wrap64 (by omega) (by omega)) ?_
    refine RW.move rfl rfl ?_
    refine RW.add rfl rfl rfl (wrap64 (by omega) (by omega)) ?_
    refine RW.move rfl rfl ?_
    refine RW.lenSl Tryd.underlying28 rfl rfl ?_
    refine RW.geq rfl rfl rfl ?_
    refine RW.nil (EX.seq ?_)
    -- mq: cond
    first | refine CW.condD rfl (fun h1 => ?_) (fun h1 => ?_) | refine CW.cond rfl (fun h1 => ?_) (fun h1 => ?_)
    · skip
      refine CW.seq (CW.region ?_)
      refine RW.buildS bu23 rfl rfl rfl ?_
      refine RW.move rfl rfl ?_
      refine RW.lenSl Tryd.underlying28 rfl rfl ?_
      refine RW.sub_ rfl rfl rfl (wrap64 (by omega) (by omega)) ?_
      refine RW.move rfl rfl ?_
      refine RW.sub_ rfl rfl rfl (wrap64 (by omega) (by omega)) ?_
      refine RW.storeA ag23 rfl rfl (by first | exact Upd.head | exact Upd.tail Upd.head | exact Upd.tail (Upd.tail Upd.head) | exact Upd.tail (Upd.tail (Upd.tail Upd.head)) | exact Upd.tail (Upd.tail (Upd.tail (Upd.tail Upd.head))) | exact Upd.tail (Upd.tail (Upd.tail (Upd.tail (Upd.tail Upd.head)))) | exact Upd.tail (Upd.tail (Upd.tail (Upd.tail (Upd.tail (Upd.tail Upd.head)))))) (by first | rfl | exact Enc.len _ _) (by repeat (first | exact Ones.nil | exact Enc.ones _ _ | refine Ones.cons rfl ?_)) (by first | exact Nat.le_of_ble_eq_true rfl | (simp only [Enc.len]; decide)) ?_
      refine RW.assign rfl rfl ?_
      refine RW.assign rfl rfl ?_
      refine RW.nil (EX.seq (CW.ret (EX.seqR ?_)))
      refine EX.fin3' Tryd.results25 (RV.cellA ag23 rfl (by first | exact Has.head | exact Has.tail Has.head | exact Has.tail (Has.tail Has.head) | exact Has.tail (Has.tail (Has.tail Has.head)) | exact Has.tail (Has.tail (Has.tail (Has.tail Has.head))) | exact Has.tail (Has.tail (Has.tail (Has.tail (Has.tail Has.head)))) | exact Has.tail (Has.tail (Has.tail (Has.tail (Has.tail (Has.tail Has.head)))))) rfl rfl) (RV.tmp rfl) (RV.tmp rfl) (fun wz hw => ?_)
      -- mq: done
      refine ⟨?_, hw.ext⟩
      rw [behF, hm, if_pos (by omega)]
      dsimp only
      rw [show ((gs.length - 1 - i : Nat) : Int) = (n : Int) - 1 - (i : Int) by omega]
      rfl
    · skip
      refine CW.skip (EX.seq (CW.seq (CW.seq (CW.region ?_))))
      refine RW.move rfl rfl ?_
      refine RW.eqlI rfl rfl rfl ?_
      refine RW.nil (EX.seq ?_)
      -- mq: cond
      first | refine CW.condD rfl (fun h2 => ?_) (fun h2 => ?_) | refine CW.cond rfl (fun h2 => ?_) (fun h2 => ?_)
      · skip
        refine CW.seq (CW.region ?_)
        refine RW.buildS bu23 rfl rfl rfl ?_
        refine RW.storeA ag23 rfl rfl (by first | exact Upd.head | exact Upd.tail Upd.head | exact Upd.tail (Upd.tail Upd.head) | exact Upd.tail (Upd.tail (Upd.tail Upd.head)) | exact Upd.tail (Upd.tail (Upd.tail (Upd.tail Upd.head))) | exact Upd.tail (Upd.tail (Upd.tail (Upd.tail (Upd.tail Upd.head)))) | exact Upd.tail (Upd.tail (Upd.tail (Upd.tail (Upd.tail (Upd.tail Upd.head)))))) (by first | rfl | exact Enc.len _ _) (by repeat (first | exact Ones.nil | exact Enc.ones _ _ | refine Ones.cons rfl ?_)) (by first | exact Nat.le_of_ble_eq_true rfl | (simp only [Enc.len]; decide)) ?_
        refine RW.assign rfl rfl ?_
        refine RW.assign rfl rfl ?_
        refine RW.nil (EX.seq (CW.ret (EX.seqR ?_)))
        refine EX.fin3' Tryd.results25 (RV.cellA ag23 rfl (by first | exact Has.head | exact Has.tail Has.head | exact Has.tail (Has.tail Has.head) | exact Has.tail (Has.tail (Has.tail Has.head)) | exact Has.tail (Has.tail (Has.tail (Has.tail Has.head))) | exact Has.tail (Has.tail (Has.tail (Has.tail (Has.tail Has.head)))) | exact Has.tail (Has.tail (Has.tail (Has.tail (Has.tail (Has.tail Has.head)))))) rfl rfl) (RV.tmp rfl) (RV.tmp rfl) (fun wz hw => ?_)
        -- mq: done
        refine ⟨?_, hw.ext⟩
        rw [behF, hm, if_neg (by omega), if_pos (by omega)]
        rfl
      · skip
        refine CW.skip (EX.seq (CW.seq ?_))
        -- mq: region
        refine CW.ownNil 3 1 ?_
        refine CW.region ?_
        refine RW.assign rfl rfl ?_
        refine RW.nil (EX.seq (CW.seq (CW.seq (CW.region ?_))))
        refine RW.move rfl rfl ?_
        refine RW.move rfl rfl ?_
        refine RW.nil (EX.seq (CW.block ?_))
        -- mq: loop
        refine CW.loop (ι := Nat × Value) (fun t => [(0, .slice A n c), (1, .int .i64 (i : Int)), (4, .pointer (some ⟨g4, 0, none⟩)), (7, .int .i64 (m : Int)), (8, t.2), (36, .int .i64 (m : Int)), (37, .int .i64 (t.1 : Int))]) (fun t => SH w [] [own 3 1 t.2 t.1 (EInt.all (nextL gs i t.1)), blk g4 [.int .i64 0, .int .i64 0] 23]) (fun t => t.1 ≤ m) (fun t => m - t.1) ?_ ?_
        · exact fun w' hw' => ⟨(0, .slice none 0 0), Nat.zero_le _, (by repeat (first | exact Sub.nil | refine Sub.cons (by rfl) ?_)), hw'⟩
        · rintro ⟨k, u⟩ hk
          dsimp only at hk ⊢
          refine CW.seq (CW.region ?_)
          refine RW.lss rfl rfl rfl ?_
          refine RW.nil (EX.seq (CW.seq ?_))
          -- mq: cond
          first | refine CW.condD rfl (fun hlt => ?_) (fun hlt => ?_) | refine CW.cond rfl (fun hlt => ?_) (fun hlt => ?_)
          · skip
            refine CW.skip (EX.seq (CW.seq (CW.block (CW.seq (CW.region ?_)))))
            refine RW.move rfl rfl ?_
            refine RW.assign rfl rfl ?_
            refine RW.nil (EX.seq (CW.region ?_))
            refine RW.move rfl rfl ?_
            refine RW.move rfl rfl ?_
            refine RW.move rfl rfl ?_
            refine RW.add rfl rfl rfl (wrap64 (by omega) (by omega)) ?_
            refine RW.move rfl rfl ?_
            refine RW.add rfl rfl rfl (wrap64 (by omega) (by omega)) ?_
            refine RW.call rfl ca22 rfl (fun w' hw' => first_c w' _ _ _ _ gs (hr.ext hw'.ext (by simp)) hc (i + 2 + k) (by omega)) ?_
            refine RW.buildSlc sl40 rfl rfl rfl rfl (fun g47 hg47 hf47 => ?_)
            refine RW.append1 sl40 rfl rfl rfl (by first | exact Rem.head | exact Rem.tail Rem.head | exact Rem.tail (Rem.tail Rem.head) | exact Rem.tail (Rem.tail (Rem.tail Rem.head)) | exact Rem.tail (Rem.tail (Rem.tail (Rem.tail Rem.head))) | exact Rem.tail (Rem.tail (Rem.tail (Rem.tail (Rem.tail Rem.head)))) | exact Rem.tail (Rem.tail (Rem.tail (Rem.tail (Rem.tail (Rem.tail Rem.head)))))) (fun _ => by first | exact Upd.head | exact Upd.tail Upd.head | exact Upd.tail (Upd.tail Upd.head) | exact Upd.tail (Upd.tail (Upd.tail Upd.head)) | exact Upd.tail (Upd.tail (Upd.tail (Upd.tail Upd.head))) | exact Upd.tail (Upd.tail (Upd.tail (Upd.tail (Upd.tail Upd.head)))) | exact Upd.tail (Upd.tail (Upd.tail (Upd.tail (Upd.tail (Upd.tail Upd.head)))))) rfl (by repeat (first | exact Ones.nil | exact Enc.ones _ _ | refine Ones.cons rfl ?_)) (by simp only [maxLen]; omega) (by omega) (fun v48 hv48 => ?_)
            refine RW.assign rfl rfl ?_
            refine RW.nil (EX.bkN (EX.seq (CW.region ?_)))
            refine RW.add rfl rfl rfl (wrap64 (by omega) (by omega)) ?_
            refine RW.move rfl rfl ?_
            refine RW.nil ?_
            -- mq: loopend
            refine EX.lpN (k + 1, v48) (by dsimp only; omega) (by dsimp only; omega) (by repeat (first | exact Sub.nil | refine Sub.cons (by rfl) ?_)) (fun w' hw' => ?_)
            dsimp only
            rw [nextL_snoc, Enc.all_snoc EInt]
            exact hw'
          · skip
            have hkm : k = m := by omega
            subst hkm
            refine CW.formOwn (v := u) Has.head (fun Au cu hvu hcapu hmaxu hlenu hgu => ?_)
            subst hvu
            refine CW.exit (EX.seqE (EX.lpE (EX.bkE (EX.seq (CW.seq (CW.region ?_))))))
            refine RW.move rfl rfl ?_
            -- mq: op 1: ('Op.call', ('Call.mk', ('Callee.value', ('Operand.func', '34')), ('arr', ('Operand.tmp', '51')), ('arr', '40'))) -> slot 52 ("attr.go:93")
            refine RW.call (v := .tuple (tupC (b3 (nextL gs i k))).toArray) rfl ca34 rfl (fun w' hw' => ?_) ?_
            · obtain ⟨A6, c6, he6, hrd6⟩ := Rd.of_own (E := EInt) (hw'.has Has.head) (nextL_len gs i k)
              cases he6
              exact byte3_c w' _ _ _ _ _ hrd6 (by omega)
            refine RW.move rfl rfl ?_
            refine RW.extract rfl rfl rfl ?_
            refine RW.extract rfl rfl rfl ?_
            refine RW.allocA ag23 rfl (fun g10 hg10 hf10 => ?_)
            refine RW.storeA ag23 rfl rfl (by first | exact Upd.head | exact Upd.tail Upd.head | exact Upd.tail (Upd.tail Upd.head) | exact Upd.tail (Upd.tail (Upd.tail Upd.head)) | exact Upd.tail (Upd.tail (Upd.tail (Upd.tail Upd.head))) | exact Upd.tail (Upd.tail (Upd.tail (Upd.tail (Upd.tail Upd.head)))) | exact Upd.tail (Upd.tail (Upd.tail (Upd.tail (Upd.tail (Upd.tail Upd.head)))))) (by first | rfl | exact Enc.len _ _) (by repeat (first | exact Ones.nil | exact Enc.ones _ _ | refine Ones.cons rfl ?_)) (by first | exact Nat.le_of_ble_eq_true rfl | (simp only [Enc.len]; decide)) ?_
            refine RW.assign rfl rfl ?_
            refine RW.nil (EX.seq (CW.seq (CW.region ?_)))
            refine RW.loadBA ag23 rfl rfl (by first | exact Has.head | exact Has.tail Has.head | exact Has.tail (Has.tail Has.head) | exact Has.tail (Has.tail (Has.tail Has.head)) | exact Has.tail (Has.tail (Has.tail (Has.tail Has.head))) | exact Has.tail (Has.tail (Has.tail (Has.tail (Has.tail Has.head)))) | exact Has.tail (Has.tail (Has.tail (Has.tail (Has.tail (Has.tail Has.head)))))) rfl rfl ?_
            refine RW.move rfl rfl ?_
            refine RW.move rfl rfl ?_
            refine RW.add rfl rfl rfl (wrap64 (by omega) (by omega)) ?_
            refine RW.storeA ag23 rfl rfl (by first | exact Upd.head | exact Upd.tail Upd.head | exact Upd.tail (Upd.tail Upd.head) | exact Upd.tail (Upd.tail (Upd.tail Upd.head)) | exact Upd.tail (Upd.tail (Upd.tail (Upd.tail Upd.head))) | exact Upd.tail (Upd.tail (Upd.tail (Upd.tail (Upd.tail Upd.head)))) | exact Upd.tail (Upd.tail (Upd.tail (Upd.tail (Upd.tail (Upd.tail Upd.head)))))) (by first | rfl | exact Enc.len _ _) (by repeat (first | exact Ones.nil | exact Enc.ones _ _ | refine Ones.cons rfl ?_)) (by first | exact Nat.le_of_ble_eq_true rfl | (simp only [Enc.len]; decide)) ?_
            refine RW.assign rfl rfl ?_
            refine RW.assign rfl rfl ?_
            refine RW.nil (EX.seq (CW.ret ?_))
            refine EX.fin3' Tryd.results25 (RV.cellA ag23 rfl (by first | exact Has.head | exact Has.tail Has.head | exact Has.tail (Has.tail Has.head) | exact Has.tail (Has.tail (Has.tail Has.head)) | exact Has.tail (Has.tail (Has.tail (Has.tail Has.head))) | exact Has.tail (Has.tail (Has.tail (Has.tail (Has.tail Has.head)))) | exact Has.tail (Has.tail (Has.tail (Has.tail (Has.tail (Has.tail Has.head)))))) rfl rfl) (RV.tmp rfl) (RV.tmp rfl) (fun wz hw => ?_)
            -- mq: done
            refine ⟨?_, hw.ext⟩
            rw [behF, hm, if_neg (by omega), if_neg (by omega)]
            dsimp only
            rw [show ((1 + k : Nat) : Int) = 1 + (k : Int) by omega]
            rfl
end Go.Proofs.YtojfodeienchfaaDoor.Mq
