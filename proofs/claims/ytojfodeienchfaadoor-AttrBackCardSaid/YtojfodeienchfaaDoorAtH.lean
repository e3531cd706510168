/- attributes: the walk of ref.Turn (printed by genh.py) -/
import Derived.Test.YtojfodeienchfaaDoorAtF
namespace Go.Proofs.YtojfodeienchfaaDoor.Mq
open Go Go.RowKit Go.Proofs

theorem fl_1 : ∀ n, n < 1024 → simpFl 1 n = withF n 1 true := by decide +kernel
theorem fl_2 : ∀ n, n < 1024 → simpFl 2 n = withF n 2 true := by decide +kernel
theorem fl_3 : ∀ n, n < 1024 → simpFl 3 n = withF n 4 true := by decide +kernel
theorem fl_5 : ∀ n, n < 1024 → simpFl 5 n = withF n 16 true := by decide +kernel
theorem fl_6 : ∀ n, n < 1024 → simpFl 6 n = withF n 16 true := by decide +kernel
theorem fl_7 : ∀ n, n < 1024 → simpFl 7 n = withF n 32 true := by decide +kernel
theorem fl_8 : ∀ n, n < 1024 → simpFl 8 n = withF n 64 true := by decide +kernel
theorem fl_9 : ∀ n, n < 1024 → simpFl 9 n = withF n 128 true := by decide +kernel
theorem fl_21 : ∀ n, n < 1024 → simpFl 21 n = withF (withF n 8 false) 256 true := by decide +kernel
theorem fl_22 : ∀ n, n < 1024 → simpFl 22 n = withF (withF n 1 false) 2 false := by decide +kernel
theorem fl_23 : ∀ n, n < 1024 → simpFl 23 n = withF n 4 false := by decide +kernel
theorem fl_24 : ∀ n, n < 1024 → simpFl 24 n = withF (withF n 8 false) 256 false := by decide +kernel
theorem fl_25 : ∀ n, n < 1024 → simpFl 25 n = withF n 16 false := by decide +kernel
theorem fl_27 : ∀ n, n < 1024 → simpFl 27 n = withF n 32 false := by decide +kernel
theorem fl_28 : ∀ n, n < 1024 → simpFl 28 n = withF n 64 false := by decide +kernel
theorem fl_29 : ∀ n, n < 1024 → simpFl 29 n = withF n 128 false := by decide +kernel
theorem fl_53 : ∀ n, n < 1024 → simpFl 53 n = withF n 512 true := by decide +kernel
theorem fl_55 : ∀ n, n < 1024 → simpFl 55 n = withF n 512 false := by decide +kernel
theorem fl_same : ∀ n, n < 1024 → clrF n 0 = n := by decide +kernel
theorem fl_4a : ∀ n, n < 1024 → clrF n 264 ||| 256 = withF (withF n 256 true) 8 false := by decide +kernel
theorem fl_4b : ∀ n, n < 1024 → clrF n 264 ||| 0 = withF (withF n 256 false) 8 false := by decide +kernel
theorem fl_4c : ∀ n, n < 1024 → clrF n 264 ||| 8 = withF (withF n 256 false) 8 true := by decide +kernel
theorem withF_le {n f : Nat} (on : Bool) (hn : n ≤ 100000) (hf : f ≤ 1000) : withF n f on ≤ n + 1000 := by
  unfold withF
  split
  · omega
  · split <;> omega
theorem fl_no {v : Int} {n : Nat} (hn : n < 1024) (h : v ≠ 1 ∧ v ≠ 2 ∧ v ≠ 3 ∧ v ≠ 5 ∧ v ≠ 6 ∧ v ≠ 7 ∧ v ≠ 8 ∧ v ≠ 9 ∧ v ≠ 21 ∧ v ≠ 22 ∧ v ≠ 23 ∧ v ≠ 24 ∧ v ≠ 25 ∧ v ≠ 27 ∧ v ≠ 28 ∧ v ≠ 29 ∧ v ≠ 53 ∧ v ≠ 55) : simpFl v n = n := by
  have h1 : setsF v = 0 := by unfold setsF; repeat (rw [if_neg (by omega)])
  have h2 : clearsF v = 0 := by unfold clearsF; repeat (rw [if_neg (by omega)])
  rw [simpFl, h1, h2, pre21, if_neg (by omega), Nat.or_zero, fl_same n hn]
def fl2 (gs : List (List Int)) (i : Nat) (v : Int) (fl : Nat) : Nat := if v = 4 then clrF fl 264 ||| lineF (gs.getD i []) else simpFl v fl
theorem stepA_gen {gs : List (List Int)} {i : Nat} {fk fn bk bn : Int} {fl : Nat} (h0 : firstV gs i ≠ 0) (h1 : firstV gs i ≠ 38) (h2 : firstV gs i ≠ 48) :
    stepA gs i ⟨fk, fn, bk, bn, (fl : Int)⟩ = (⟨(palK (firstV gs i) 30 90 (fk, fn)).1, (palK (firstV gs i) 30 90 (fk, fn)).2, (palK (firstV gs i) 40 100 (bk, bn)).1, (palK (firstV gs i) 40 100 (bk, bn)).2, (fl2 gs i (firstV gs i) fl : Int)⟩, i + 1) := by
  unfold stepA fl2
  split
  · rename_i h4
    rw [palK, if_neg (by omega), if_neg (by omega), if_neg (by omega), palK, if_neg (by omega), if_neg (by omega), if_neg (by omega)]
    rfl
  · rw [if_neg (by omega), simpleV, if_neg h0]
    rfl
theorem fl2_lt {gs : List (List Int)} {i : Nat} (v : Int) {fl : Nat} (h : fl < 1024) : fl2 gs i v fl < 1024 := by
  unfold fl2
  split
  · exact setF_lt (Nat.lt_of_le_of_lt (clrF_le _ _) h) (lineF_lt _)
  · exact simpFl_lt v h
theorem turnF_ext {gs : List (List Int)} {i : Nat} (hi : i < gs.length) (b : AtV) : turnF gs (extN gs i) b = turnF gs (i + (colG gs i).2 + 1) b := by
  rcases extN_eq hi with h | ⟨h, h2⟩
  · rw [h]
  · rw [turnF_out h, turnF_out (by omega)]
theorem extN_le (gs : List (List Int)) (i : Nat) : i < extN gs i ∧ extN gs i ≤ i + 5 := by
  unfold extN
  split
  · omega
  · split
    · omega
    · split <;> omega
theorem refTurn_c (w : World) (F : Nat → Prop) (A : Option Addr) (n c : Nat) (gs : List (List Int)) (hr : RdG w F A n c gs) (hc : Cl gs) (a0 : AtV) (ha0 : FlOk a0) :
    Calls Tryd.prog 14 [atV a0, .slice A n c].toArray w (fun e w' => e = .returned (atV (turnF gs 0 a0)) ∧ Ext [] w w') := by
  have hl := hr.len
  have h32 := hc.1
  refine calls (n := 218) Tryd.func14 rfl Tryd.ntmps14 rfl ?_
  refine CW.sub (H' := SH w [] []) ?_ (Sub.refl _) (fun x hx => SH.start' _ _ hx)
  refine CW.seq (CW.region ?_)
  refine RW.boxA rfl rfl (fun g2 hg2 hf2 => ?_)
  refine RW.allocA ag25 rfl (fun g4 hg4 hf4 => ?_)
  refine RW.nil (EX.seq (CW.seq (CW.region ?_)))
  refine RW.assign rfl rfl ?_
  refine RW.nil (EX.seq (CW.seq (CW.block ?_)))
  -- mq: loop
  refine CW.loop (ι := Nat × AtV) (fun t => [(1, .slice A n c), (2, .pointer (some ⟨g2, 0, none⟩)), (4, .pointer (some ⟨g4, 0, none⟩)), (5, .int .i64 (t.1 : Int))]) (fun t => SH w [] [blk g4 [.int .i64 0, .int .i64 0, .int .i64 0, .int .i64 0, .int .i64 0] 25, blk g2 [.int .i64 t.2.fk, .int .i64 t.2.fn, .int .i64 t.2.bk, .int .i64 t.2.bn, .int .i64 t.2.fl] 25]) (fun t => t.1 ≤ n + 5 ∧ FlOk t.2 ∧ turnF gs t.1 t.2 = turnF gs 0 a0) (fun t => n + 5 - t.1) ?_ ?_
  · exact fun w' hw' => ⟨(0, a0), ⟨Nat.zero_le _, ha0, rfl⟩, (by repeat (first | exact Sub.nil | refine Sub.cons (by rfl) ?_)), hw'⟩
  · rintro ⟨i, a⟩ ⟨hi, hfl, hturn⟩
    obtain ⟨fk, fn, bk, bn, fli⟩ := a
    obtain ⟨fl, rfl⟩ : ∃ m : Nat, fli = m := ⟨fli.toNat, by have := hfl.1; dsimp only at this; omega⟩
    have hfl2 : fl < 1024 := by have := hfl.2; dsimp only at this; omega
    dsimp only at hi hturn ⊢
    refine CW.seq (CW.seq (CW.region ?_))
    refine RW.move rfl rfl ?_
    refine RW.move rfl rfl ?_
    refine RW.lenSl Tryd.underlying28 rfl rfl ?_
    refine RW.lss rfl rfl rfl ?_
    refine RW.nil (EX.seq ?_)
    -- mq: cond
    first | refine CW.condD rfl (fun hlt => ?_) (fun hlt => ?_) | refine CW.cond rfl (fun hlt => ?_) (fun hlt => ?_)
    · skip
      have hi2 : i < gs.length := by omega
      obtain ⟨g, hg⟩ : ∃ g, gs[i]? = some g := ⟨gs[i]'hi2, List.getElem?_eq_getElem _⟩
      have hgd : gs.getD i [] = g := by rw [List.getD_eq_getElem?_getD, hg]; rfl
      obtain ⟨ad, X, p, q, hA, _, hcell, hrd⟩ := hr.at_ hg
      have hp := hrd.len
      have hg8 := (hc.2 g (List.mem_of_getElem? hg)).2.1
      have hv := firstV_range hc i
      have hex := colG_ext hc i hi2
      have hxl := extN_le gs i
      refine CW.skip (EX.seq (CW.block (CW.seq ?_)))
      -- mq: region
      refine CW.region ?_
      refine RW.move rfl rfl ?_
      refine RW.move rfl rfl ?_
      refine RW.call rfl ca27 rfl (fun w' hw' => at_c w' _ _ _ _ gs (hr.ext hw'.ext (by simp)) hc i (by omega)) ?_
      refine RW.move rfl rfl ?_
      refine RW.extract rfl rfl rfl ?_
      refine RW.extract rfl rfl rfl ?_
      refine RW.assign rfl rfl ?_
      refine RW.assign rfl rfl ?_
      refine RW.nil (EX.seq (CW.seq ?_))
      -- mq: region
      refine CW.region ?_
      refine RW.move rfl rfl ?_
      refine RW.move rfl rfl ?_
      refine RW.ixAddr (q := i) sl28 rfl rfl rfl (by first | rfl | assumption) (by omega) (by omega) ?_
      refine RW.load1 sc40 rfl rfl (fun w' hw' => hw'.base_cell hcell (by simp [feet])) ?_
      refine RW.assign rfl rfl ?_
      refine RW.nil (EX.seq (CW.seq (CW.seq (CW.region ?_))))
      refine RW.move rfl rfl ?_
      refine RW.eqlI rfl rfl rfl ?_
      refine RW.move rfl rfl ?_
      -- mq: guard slot 31

      refine RW.casesB 31 rfl (fun e38 => ?_) (fun e38 => ?_)
      · skip
        have e38p := of_decide_eq_true e38
        have h38 := e38p
        refine RW.guardF rfl rfl rfl e38 ?_
        refine RW.guardF rfl rfl rfl e38 ?_
        refine RW.pickB rfl rfl e38 rfl ?_
        refine RW.nil (EX.seq ?_)
        -- mq: cond
        refine CW.condT rfl (rfl) ?_
        refine CW.seq ?_
        -- mq: region
        refine CW.region ?_
        refine RW.move rfl rfl ?_
        refine RW.move rfl rfl ?_
        refine RW.call rfl ca28 rfl (fun w' hw' => extended_c w' _ _ _ _ gs (hr.ext hw'.ext (by simp)) hc i (by omega)) ?_
        refine RW.move rfl rfl ?_
        refine RW.extract rfl rfl rfl ?_
        refine RW.extract rfl rfl rfl ?_
        refine RW.extract rfl rfl rfl ?_
        refine RW.allocA ag23 rfl (fun g9 hg9 hf9 => ?_)
        refine RW.storeA ag23 rfl rfl (by first | exact Upd.head | exact Upd.tail Upd.head | exact Upd.tail (Upd.tail Upd.head) | exact Upd.tail (Upd.tail (Upd.tail Upd.head)) | exact Upd.tail (Upd.tail (Upd.tail (Upd.tail Upd.head))) | exact Upd.tail (Upd.tail (Upd.tail (Upd.tail (Upd.tail Upd.head)))) | exact Upd.tail (Upd.tail (Upd.tail (Upd.tail (Upd.tail (Upd.tail Upd.head)))))) (by first | rfl | exact Enc.len _ _) (by repeat (first | exact Ones.nil | exact Enc.ones _ _ | refine Ones.cons rfl ?_)) (by first | exact Nat.le_of_ble_eq_true rfl | (simp only [Enc.len]; decide)) ?_
        refine RW.assign rfl rfl ?_
        refine RW.assign rfl rfl ?_
        refine RW.nil (EX.seq (CW.seq (CW.seq ?_)))
        -- mq: region
        have hs : stepA gs i ⟨fk, fn, bk, bn, (fl : Int)⟩ = (setCol (firstV gs i) (colG gs i).1 ⟨fk, fn, bk, bn, (fl : Int)⟩, i + (colG gs i).2 + 1) := by
          rw [stepA, if_neg (by omega), if_pos (by omega)]
        refine CW.region ?_
        refine RW.move rfl rfl ?_
        refine RW.move rfl rfl ?_
        -- mq: guard slot 43
        refine RW.casesB 43 rfl (fun hb => ?_) (fun hb => ?_)
        · skip
          rw [hex, if_pos hb] at hs
          refine RW.guardT rfl rfl hb ?_
          refine RW.move rfl rfl ?_
          refine RW.guardT rfl rfl hb ?_
          refine RW.eqlI rfl rfl rfl ?_
          refine RW.pickB rfl rfl hb rfl ?_
          refine RW.nil (EX.seq ?_)
          -- mq: cond
          refine CW.condT rfl ((decide_eq_true h38)) ?_
          refine CW.region ?_
          refine RW.loadBA ag23 rfl rfl (by first | exact Has.head | exact Has.tail Has.head | exact Has.tail (Has.tail Has.head) | exact Has.tail (Has.tail (Has.tail Has.head)) | exact Has.tail (Has.tail (Has.tail (Has.tail Has.head))) | exact Has.tail (Has.tail (Has.tail (Has.tail (Has.tail Has.head)))) | exact Has.tail (Has.tail (Has.tail (Has.tail (Has.tail (Has.tail Has.head)))))) rfl rfl ?_
          refine RW.fieldB fl25x0 rfl rfl ?_
          refine RW.storeA ag23 rfl rfl (by first | exact Upd.head | exact Upd.tail Upd.head | exact Upd.tail (Upd.tail Upd.head) | exact Upd.tail (Upd.tail (Upd.tail Upd.head)) | exact Upd.tail (Upd.tail (Upd.tail (Upd.tail Upd.head))) | exact Upd.tail (Upd.tail (Upd.tail (Upd.tail (Upd.tail Upd.head)))) | exact Upd.tail (Upd.tail (Upd.tail (Upd.tail (Upd.tail (Upd.tail Upd.head)))))) (by first | rfl | exact Enc.len _ _) (by repeat (first | exact Ones.nil | exact Enc.ones _ _ | refine Ones.cons rfl ?_)) (by first | exact Nat.le_of_ble_eq_true rfl | (simp only [Enc.len]; decide)) ?_
          refine RW.nil (EX.seq (CW.seq (CW.seq (CW.region ?_))))
          refine RW.move rfl rfl ?_
          refine RW.move rfl rfl ?_
          -- mq: guard slot 50
          refine RW.guardT rfl rfl hb ?_
          refine RW.move rfl rfl ?_
          refine RW.guardT rfl rfl hb ?_
          refine RW.eqlI rfl rfl rfl ?_
          refine RW.pickB rfl rfl hb rfl ?_
          refine RW.nil (EX.seq ?_)
          -- mq: cond
          refine CW.condF rfl ((decide_eq_false (by omega))) ?_
          refine CW.skip (EX.seq (CW.seq (CW.region ?_)))
          refine RW.move rfl rfl ?_
          refine RW.assign rfl rfl ?_
          refine RW.nil (EX.seq (CW.exit (EX.seqE (EX.bkE ?_))))
          -- mq: loopend
          refine EX.lpN (extN gs i, ⟨(extC gs i).1, (extC gs i).2, bk, bn, (fl : Int)⟩) ⟨by dsimp only; omega, ⟨hfl.1, hfl.2⟩, by dsimp only; rw [turnF_ext hi2, ← hturn, turnF_in hi2 hs]; simp only [setCol, if_pos h38]⟩ (by dsimp only; omega) (by repeat (first | exact Sub.nil | refine Sub.cons (by rfl) ?_)) (fun w' hw' => hw'.rem Rem.head)
        · skip
          rw [hex, if_neg (by simp [hb])] at hs
          refine RW.guardF rfl rfl rfl hb ?_
          refine RW.guardF rfl rfl rfl hb ?_
          refine RW.pickC rfl rfl hb rfl ?_
          refine RW.nil (EX.seq ?_)
          -- mq: cond
          refine CW.condF rfl (rfl) ?_
          refine CW.skip (EX.seq (CW.seq (CW.seq (CW.region ?_))))
          refine RW.move rfl rfl ?_
          refine RW.move rfl rfl ?_
          -- mq: guard slot 50
          refine RW.guardF rfl rfl rfl hb ?_
          refine RW.guardF rfl rfl rfl hb ?_
          refine RW.pickC rfl rfl hb rfl ?_
          refine RW.nil (EX.seq ?_)
          -- mq: cond
          refine CW.condF rfl (rfl) ?_
          refine CW.skip (EX.seq (CW.seq (CW.region ?_)))
          refine RW.move rfl rfl ?_
          refine RW.assign rfl rfl ?_
          refine RW.nil (EX.seq (CW.exit (EX.seqE (EX.bkE ?_))))
          -- mq: loopend
          refine EX.lpN (extN gs i, ⟨fk, fn, bk, bn, (fl : Int)⟩) ⟨by dsimp only; omega, hfl, by dsimp only; rw [turnF_ext hi2, ← hturn, turnF_in hi2 hs]; rfl⟩ (by dsimp only; omega) (by repeat (first | exact Sub.nil | refine Sub.cons (by rfl) ?_)) (fun w' hw' => hw'.rem Rem.head)
      · skip
        have e38p := of_decide_eq_false e38
        have h38 := e38p
        refine RW.guardT rfl rfl e38 ?_
        refine RW.move rfl rfl ?_
        refine RW.guardT rfl rfl e38 ?_
        refine RW.eqlI rfl rfl rfl ?_
        refine RW.pickC rfl rfl e38 rfl ?_
        refine RW.nil (EX.seq ?_)
        -- mq: cond
        first | refine CW.condD rfl (fun h48 => ?_) (fun h48 => ?_) | refine CW.cond rfl (fun h48 => ?_) (fun h48 => ?_)
        · skip
          refine CW.seq ?_
          -- mq: region
          refine CW.region ?_
          refine RW.move rfl rfl ?_
          refine RW.move rfl rfl ?_
          refine RW.call rfl ca28 rfl (fun w' hw' => extended_c w' _ _ _ _ gs (hr.ext hw'.ext (by simp)) hc i (by omega)) ?_
          refine RW.move rfl rfl ?_
          refine RW.extract rfl rfl rfl ?_
          refine RW.extract rfl rfl rfl ?_
          refine RW.extract rfl rfl rfl ?_
          refine RW.allocA ag23 rfl (fun g9 hg9 hf9 => ?_)
          refine RW.storeA ag23 rfl rfl (by first | exact Upd.head | exact Upd.tail Upd.head | exact Upd.tail (Upd.tail Upd.head) | exact Upd.tail (Upd.tail (Upd.tail Upd.head)) | exact Upd.tail (Upd.tail (Upd.tail (Upd.tail Upd.head))) | exact Upd.tail (Upd.tail (Upd.tail (Upd.tail (Upd.tail Upd.head)))) | exact Upd.tail (Upd.tail (Upd.tail (Upd.tail (Upd.tail (Upd.tail Upd.head)))))) (by first | rfl | exact Enc.len _ _) (by repeat (first | exact Ones.nil | exact Enc.ones _ _ | refine Ones.cons rfl ?_)) (by first | exact Nat.le_of_ble_eq_true rfl | (simp only [Enc.len]; decide)) ?_
          refine RW.assign rfl rfl ?_
          refine RW.assign rfl rfl ?_
          refine RW.nil (EX.seq (CW.seq (CW.seq ?_)))
          -- mq: region
          have hs : stepA gs i ⟨fk, fn, bk, bn, (fl : Int)⟩ = (setCol (firstV gs i) (colG gs i).1 ⟨fk, fn, bk, bn, (fl : Int)⟩, i + (colG gs i).2 + 1) := by
            rw [stepA, if_neg (by omega), if_pos (by omega)]
          refine CW.region ?_
          refine RW.move rfl rfl ?_
          refine RW.move rfl rfl ?_
          -- mq: guard slot 43
          refine RW.casesB 43 rfl (fun hb => ?_) (fun hb => ?_)
          · skip
            rw [hex, if_pos hb] at hs
            refine RW.guardT rfl rfl hb ?_
            refine RW.move rfl rfl ?_
            refine RW.guardT rfl rfl hb ?_
            refine RW.eqlI rfl rfl rfl ?_
            refine RW.pickB rfl rfl hb rfl ?_
            refine RW.nil (EX.seq ?_)
            -- mq: cond
            refine CW.condF rfl ((decide_eq_false h38)) ?_
            refine CW.skip (EX.seq (CW.seq (CW.seq (CW.region ?_))))
            refine RW.move rfl rfl ?_
            refine RW.move rfl rfl ?_
            -- mq: guard slot 50
            refine RW.guardT rfl rfl hb ?_
            refine RW.move rfl rfl ?_
            refine RW.guardT rfl rfl hb ?_
            refine RW.eqlI rfl rfl rfl ?_
            refine RW.pickB rfl rfl hb rfl ?_
            refine RW.nil (EX.seq ?_)
            -- mq: cond
            refine CW.condT rfl ((decide_eq_true h48)) ?_
            refine CW.region ?_
            refine RW.loadBA ag23 rfl rfl (by first | exact Has.head | exact Has.tail Has.head | exact Has.tail (Has.tail Has.head) | exact Has.tail (Has.tail (Has.tail Has.head)) | exact Has.tail (Has.tail (Has.tail (Has.tail Has.head))) | exact Has.tail (Has.tail (Has.tail (Has.tail (Has.tail Has.head)))) | exact Has.tail (Has.tail (Has.tail (Has.tail (Has.tail (Has.tail Has.head)))))) rfl rfl ?_
            refine RW.fieldB fl25x1 rfl rfl ?_
            refine RW.storeA ag23 rfl rfl (by first | exact Upd.head | exact Upd.tail Upd.head | exact Upd.tail (Upd.tail Upd.head) | exact Upd.tail (Upd.tail (Upd.tail Upd.head)) | exact Upd.tail (Upd.tail (Upd.tail (Upd.tail Upd.head))) | exact Upd.tail (Upd.tail (Upd.tail (Upd.tail (Upd.tail Upd.head)))) | exact Upd.tail (Upd.tail (Upd.tail (Upd.tail (Upd.tail (Upd.tail Upd.head)))))) (by first | rfl | exact Enc.len _ _) (by repeat (first | exact Ones.nil | exact Enc.ones _ _ | refine Ones.cons rfl ?_)) (by first | exact Nat.le_of_ble_eq_true rfl | (simp only [Enc.len]; decide)) ?_
            refine RW.nil (EX.seq (CW.seq (CW.region ?_)))
            refine RW.move rfl rfl ?_
            refine RW.assign rfl rfl ?_
            refine RW.nil (EX.seq (CW.exit (EX.seqE (EX.bkE ?_))))
            -- mq: loopend
            refine EX.lpN (extN gs i, ⟨fk, fn, (extC gs i).1, (extC gs i).2, (fl : Int)⟩) ⟨by dsimp only; omega, ⟨hfl.1, hfl.2⟩, by dsimp only; rw [turnF_ext hi2, ← hturn, turnF_in hi2 hs]; simp only [setCol, if_neg h38]⟩ (by dsimp only; omega) (by repeat (first | exact Sub.nil | refine Sub.cons (by rfl) ?_)) (fun w' hw' => hw'.rem Rem.head)
          · skip
            rw [hex, if_neg (by simp [hb])] at hs
            refine RW.guardF rfl rfl rfl hb ?_
            refine RW.guardF rfl rfl rfl hb ?_
            refine RW.pickC rfl rfl hb rfl ?_
            refine RW.nil (EX.seq ?_)
            -- mq: cond
            refine CW.condF rfl (rfl) ?_
            refine CW.skip (EX.seq (CW.seq (CW.seq (CW.region ?_))))
            refine RW.move rfl rfl ?_
            refine RW.move rfl rfl ?_
            -- mq: guard slot 50
            refine RW.guardF rfl rfl rfl hb ?_
            refine RW.guardF rfl rfl rfl hb ?_
            refine RW.pickC rfl rfl hb rfl ?_
            refine RW.nil (EX.seq ?_)
            -- mq: cond
            refine CW.condF rfl (rfl) ?_
            refine CW.skip (EX.seq (CW.seq (CW.region ?_)))
            refine RW.move rfl rfl ?_
            refine RW.assign rfl rfl ?_
            refine RW.nil (EX.seq (CW.exit (EX.seqE (EX.bkE ?_))))
            -- mq: loopend
            refine EX.lpN (extN gs i, ⟨fk, fn, bk, bn, (fl : Int)⟩) ⟨by dsimp only; omega, hfl, by dsimp only; rw [turnF_ext hi2, ← hturn, turnF_in hi2 hs]; rfl⟩ (by dsimp only; omega) (by repeat (first | exact Sub.nil | refine Sub.cons (by rfl) ?_)) (fun w' hw' => hw'.rem Rem.head)
        · skip
          refine CW.skip (EX.seq (CW.seq (CW.region ?_)))
          refine RW.move rfl rfl ?_
          refine RW.add rfl rfl rfl (wrap64 (by omega) (by omega)) ?_
          refine RW.assign rfl rfl ?_
          refine RW.nil (EX.seq (CW.seq (CW.region ?_)))
          refine RW.fieldB fl25x2 rfl rfl ?_
          refine RW.loadB1 sc3 rfl rfl (by first | exact Has.head | exact Has.tail Has.head | exact Has.tail (Has.tail Has.head) | exact Has.tail (Has.tail (Has.tail Has.head)) | exact Has.tail (Has.tail (Has.tail (Has.tail Has.head))) | exact Has.tail (Has.tail (Has.tail (Has.tail (Has.tail Has.head)))) | exact Has.tail (Has.tail (Has.tail (Has.tail (Has.tail (Has.tail Has.head)))))) rfl ?_
          refine RW.assign rfl rfl ?_
          refine RW.nil (EX.seq (CW.seq (CW.seq (CW.region ?_))))
          refine RW.move rfl rfl ?_
          refine RW.nil (EX.seq ?_)
          -- mq: block
          by_cases h0 : firstV gs i = 0
          · skip
            refine CW.block (CW.seq (CW.region ?_))
            refine RW.eqlI rfl rfl rfl ?_
            refine RW.assign rfl rfl ?_
            refine RW.nil (EX.seq ?_)
            -- mq: cond
            refine CW.condT rfl ((decide_eq_true h0)) ?_
            refine CW.seq (CW.region ?_)
            refine RW.buildS bu25 rfl rfl rfl ?_
            refine RW.storeA ag25 rfl rfl (by first | exact Upd.head | exact Upd.tail Upd.head | exact Upd.tail (Upd.tail Upd.head) | exact Upd.tail (Upd.tail (Upd.tail Upd.head)) | exact Upd.tail (Upd.tail (Upd.tail (Upd.tail Upd.head))) | exact Upd.tail (Upd.tail (Upd.tail (Upd.tail (Upd.tail Upd.head)))) | exact Upd.tail (Upd.tail (Upd.tail (Upd.tail (Upd.tail (Upd.tail Upd.head)))))) (by first | rfl | exact Enc.len _ _) (by repeat (first | exact Ones.nil | exact Enc.ones _ _ | refine Ones.cons rfl ?_)) (by first | exact Nat.le_of_ble_eq_true rfl | (simp only [Enc.len]; decide)) ?_
            refine RW.nil (EX.seq (CW.exit (EX.bkO rfl (EX.seqE (EX.bkE ?_)))))
            -- mq: loopend
            have hs : stepA gs i ⟨fk, fn, bk, bn, (fl : Int)⟩ = (zeroA, i + 1) := by rw [stepA, if_neg (by omega), if_neg (by omega), simpleV, if_pos h0]
            refine EX.lpN (i + 1, zeroA) ⟨by dsimp only; omega, ⟨Int.le_refl 0, by show (0 : Int) < 1024; decide⟩, by dsimp only; rw [← hturn, turnF_in hi2 hs]⟩ (by dsimp only; omega) (by repeat (first | exact Sub.nil | refine Sub.cons (by rfl) ?_)) (fun w' hw' => hw')
          · skip
            have hstep := stepA_gen (fk := fk) (fn := fn) (bk := bk) (bn := bn) (fl := fl) h0 h38 h48
            have hF2 := fl2_lt (gs := gs) (i := i) (firstV gs i) hfl2
            obtain ⟨FL, hFL⟩ : ∃ x, x = fl2 gs i (firstV gs i) fl := ⟨_, rfl⟩
            obtain ⟨k1, hk1⟩ : ∃ x : Int, x = if firstV gs i = 39 then 0 else fk := ⟨_, rfl⟩
            obtain ⟨n1, hn1⟩ : ∃ x : Int, x = if firstV gs i = 39 then 0 else fn := ⟨_, rfl⟩
            obtain ⟨k2, hk2⟩ : ∃ x : Int, x = if firstV gs i = 49 then 0 else bk := ⟨_, rfl⟩
            obtain ⟨n2, hn2⟩ : ∃ x : Int, x = if firstV gs i = 49 then 0 else bn := ⟨_, rfl⟩
            rw [← hFL] at hstep hF2
            generalize hvv : firstV gs i = v at *
            refine CW.join ([(1, .slice A n c), (2, .pointer (some ⟨g2, 0, none⟩)), (4, .pointer (some ⟨g4, 0, none⟩)), (5, .int .i64 ((i + 1 : Nat) : Int)), (6, .int .i64 v), (12, .int .i64 (FL : Int))]) (SH w [] [blk g4 [.int .i64 0, .int .i64 0, .int .i64 0, .int .i64 0, .int .i64 0] 25, blk g2 [.int .i64 k1, .int .i64 n1, .int .i64 k2, .int .i64 n2, .int .i64 (fl : Int)] 25]) ?_ ?_
            · skip
              refine CW.block (CW.seq (CW.region ?_))
              refine RW.eqlI rfl rfl rfl ?_
              refine RW.assign rfl rfl ?_
              refine RW.nil (EX.seq ?_)
              -- mq: cond
              refine CW.condF rfl ((decide_eq_false h0)) ?_
              refine CW.seq (CW.region ?_)
              refine RW.eqlI rfl rfl rfl ?_
              refine RW.assign rfl rfl ?_
              refine RW.nil (EX.seq ?_)
              -- mq: cond
              first | refine CW.condD rfl (fun c0 => ?_) (fun c0 => ?_) | refine CW.cond rfl (fun c0 => ?_) (fun c0 => ?_)
              · skip
                refine CW.region ?_
                refine RW.move rfl rfl ?_
                -- mq: op 1: ('Op.call', ('Call.mk', ('Callee.value', ('Operand.func', '29')), ('arr', ('Operand.tmp', '67'), ('Operand.const', ('Value.int', 'IntKind.i64', '1')), ('Operand.const', ('Value.bool', 'true'))), ('arr', '3', '3', '4'))) -> slot 68 ("ref.go:113")
                refine RW.call rfl ca29 rfl (fun w' _ => with_c w' (fl) 1 (by omega) (by decide) true) ?_
                refine RW.assign rfl rfl ?_
                refine RW.nil (EX.bkN ?_)
                -- mq: joinend
                rw [show k1 = fk from by rw [hk1, if_neg (by omega)]]
                rw [show n1 = fn from by rw [hn1, if_neg (by omega)]]
                rw [show k2 = bk from by rw [hk2, if_neg (by omega)]]
                rw [show n2 = bn from by rw [hn2, if_neg (by omega)]]
                rw [show FL = withF fl 1 true from by rw [hFL, fl2, if_neg (by omega), c0]; exact fl_1 fl hfl2]
                exact EX.jn (by repeat (first | exact Sub.nil | refine Sub.cons (by rfl) ?_)) (fun _ h => h)
              · skip
                refine CW.seq (CW.region ?_)
                refine RW.eqlI rfl rfl rfl ?_
                refine RW.assign rfl rfl ?_
                refine RW.nil (EX.seq ?_)
                -- mq: cond
                first | refine CW.condD rfl (fun c1 => ?_) (fun c1 => ?_) | refine CW.cond rfl (fun c1 => ?_) (fun c1 => ?_)
                · skip
                  refine CW.region ?_
                  refine RW.move rfl rfl ?_
                  -- mq: op 1: ('Op.call', ('Call.mk', ('Callee.value', ('Operand.func', '29')), ('arr', ('Operand.tmp', '71'), ('Operand.const', ('Value.int', 'IntKind.i64', '2')), ('Operand.const', ('Value.bool', 'true'))), ('arr', '3', '3', '4'))) -> slot 72 ("ref.go:115")
                  refine RW.call rfl ca29 rfl (fun w' _ => with_c w' (fl) 2 (by omega) (by decide) true) ?_
                  refine RW.assign rfl rfl ?_
                  refine RW.nil (EX.bkN ?_)
                  -- mq: joinend
                  rw [show k1 = fk from by rw [hk1, if_neg (by omega)]]
                  rw [show n1 = fn from by rw [hn1, if_neg (by omega)]]
                  rw [show k2 = bk from by rw [hk2, if_neg (by omega)]]
                  rw [show n2 = bn from by rw [hn2, if_neg (by omega)]]
                  rw [show FL = withF fl 2 true from by rw [hFL, fl2, if_neg (by omega), c1]; exact fl_2 fl hfl2]
                  exact EX.jn (by repeat (first | exact Sub.nil | refine Sub.cons (by rfl) ?_)) (fun _ h => h)
                · skip
                  refine CW.seq (CW.region ?_)
                  refine RW.eqlI rfl rfl rfl ?_
                  refine RW.assign rfl rfl ?_
                  refine RW.nil (EX.seq ?_)
                  -- mq: cond
                  first | refine CW.condD rfl (fun c2 => ?_) (fun c2 => ?_) | refine CW.cond rfl (fun c2 => ?_) (fun c2 => ?_)
                  · skip
                    refine CW.region ?_
                    refine RW.move rfl rfl ?_
                    -- mq: op 1: ('Op.call', ('Call.mk', ('Callee.value', ('Operand.func', '29')), ('arr', ('Operand.tmp', '75'), ('Operand.const', ('Value.int', 'IntKind.i64', '4')), ('Operand.const', ('Value.bool', 'true'))), ('arr', '3', '3', '4'))) -> slot 76 ("ref.go:117")
                    refine RW.call rfl ca29 rfl (fun w' _ => with_c w' (fl) 4 (by omega) (by decide) true) ?_
                    refine RW.assign rfl rfl ?_
                    refine RW.nil (EX.bkN ?_)
                    -- mq: joinend
                    rw [show k1 = fk from by rw [hk1, if_neg (by omega)]]
                    rw [show n1 = fn from by rw [hn1, if_neg (by omega)]]
                    rw [show k2 = bk from by rw [hk2, if_neg (by omega)]]
                    rw [show n2 = bn from by rw [hn2, if_neg (by omega)]]
                    rw [show FL = withF fl 4 true from by rw [hFL, fl2, if_neg (by omega), c2]; exact fl_3 fl hfl2]
                    exact EX.jn (by repeat (first | exact Sub.nil | refine Sub.cons (by rfl) ?_)) (fun _ h => h)
                  · skip
                    refine CW.seq (CW.region ?_)
                    refine RW.eqlI rfl rfl rfl ?_
                    refine RW.assign rfl rfl ?_
                    refine RW.nil (EX.seq ?_)
                    -- mq: cond
                    first | refine CW.condD rfl (fun c3 => ?_) (fun c3 => ?_) | refine CW.cond rfl (fun c3 => ?_) (fun c3 => ?_)
                    · skip
                      have hF4 : FL = clrF fl 264 ||| lineF g := by rw [hFL, fl2, if_pos c3, hgd]
                      rw [show k1 = fk from by rw [hk1, if_neg (by omega)]]
                      rw [show n1 = fn from by rw [hn1, if_neg (by omega)]]
                      rw [show k2 = bk from by rw [hk2, if_neg (by omega)]]
                      rw [show n2 = bn from by rw [hn2, if_neg (by omega)]]
                      refine CW.seq (CW.region ?_)
                      refine RW.move rfl rfl ?_
                      refine RW.lenSl Tryd.underlying40 rfl rfl ?_
                      refine RW.gtr rfl rfl rfl ?_
                      refine RW.move rfl rfl ?_
                      -- mq: guard slot 82
                      refine RW.casesB 82 rfl (fun d1 => ?_) (fun d1 => ?_)
                      · skip
                        have d1p := of_decide_eq_true d1
                        obtain ⟨y, hy⟩ : ∃ y, g[1]? = some y := ⟨g[1]'(by omega), List.getElem?_eq_getElem _⟩
                        obtain ⟨yd, hB, _, hycell⟩ := hrd.at_ hy
                        refine RW.guardT rfl rfl d1 ?_
                        refine RW.move rfl rfl ?_
                        refine RW.guardT rfl rfl d1 ?_
                        refine RW.ixAddr (q := 1) sl40 rfl rfl rfl hB (by omega) (by omega) ?_
                        refine RW.guardT rfl rfl d1 ?_
                        refine RW.load1 sc3 rfl rfl (fun w' hw' => hw'.base_cell (hycell 0 _ rfl) (by simp [feet])) ?_
                        refine RW.guardT rfl rfl d1 ?_
                        refine RW.eqlI rfl rfl rfl ?_
                        refine RW.pickB rfl rfl d1 rfl ?_
                        refine RW.assign rfl rfl ?_
                        refine RW.nil (EX.seq (CW.seq ?_))
                        -- mq: region
                        refine CW.region ?_
                        refine RW.move rfl rfl ?_
                        refine RW.lenSl Tryd.underlying40 rfl rfl ?_
                        refine RW.gtr rfl rfl rfl ?_
                        refine RW.move rfl rfl ?_
                        refine RW.guardT rfl rfl d1 ?_
                        refine RW.move rfl rfl ?_
                        refine RW.guardT rfl rfl d1 ?_
                        refine RW.ixAddr (q := 1) sl40 rfl rfl rfl hB (by omega) (by omega) ?_
                        refine RW.guardT rfl rfl d1 ?_
                        refine RW.load1 sc3 rfl rfl (fun w' hw' => hw'.base_cell (hycell 0 _ rfl) (by simp [feet])) ?_
                        refine RW.guardT rfl rfl d1 ?_
                        refine RW.eqlI rfl rfl rfl ?_
                        refine RW.pickB rfl rfl d1 rfl ?_
                        refine RW.assign rfl rfl ?_
                        refine RW.nil (EX.seq ?_)
                        -- mq: region
                        have hw1 := withF_le (decide (y = 2)) (n := fl) (f := 256) (by omega) (by omega)
                        refine CW.region ?_
                        refine RW.move rfl rfl ?_
                        refine RW.move rfl rfl ?_
                        refine RW.call rfl ca29 rfl (fun w' _ => with_c w' fl 256 (by omega) (by decide) (decide (y = 2))) ?_
                        refine RW.move rfl rfl ?_
                        refine RW.not_ rfl rfl ?_
                        refine RW.move rfl rfl ?_
                        -- mq: guard slot 102
                        refine RW.casesB 102 rfl (fun d2 => ?_) (fun d2 => ?_)
                        · skip
                          have d3 : ¬ y = 2 := by simpa using d2
                          refine RW.guardT rfl rfl d2 ?_
                          refine RW.move rfl rfl ?_
                          refine RW.guardT rfl rfl d2 ?_
                          refine RW.not_ rfl rfl ?_
                          refine RW.pickB rfl rfl d2 rfl ?_
                          refine RW.call rfl ca29 rfl (fun w' _ => with_c w' (withF fl 256 (decide (y = 2))) 8 (by omega) (by decide) (!decide (y = 0))) ?_
                          refine RW.assign rfl rfl ?_
                          refine RW.nil (EX.bkN ?_)
                          -- mq: joinend
                          rw [show FL = withF (withF fl 256 (decide (y = 2))) 8 (!decide (y = 0)) from by
                            rw [hF4, lineF, hy, decide_eq_false d3]
                            by_cases d4 : y = 0
                            · rw [d4, if_pos rfl]; exact fl_4b fl hfl2
                            · rw [if_neg (by simpa using d4), if_neg (by simpa using d3), decide_eq_false d4]; exact fl_4c fl hfl2]
                          exact EX.jn (by repeat (first | exact Sub.nil | refine Sub.cons (by rfl) ?_)) (fun _ h => h)
                        · skip
                          have d3 : y = 2 := by simpa using d2
                          refine RW.guardF rfl rfl rfl d2 ?_
                          refine RW.guardF rfl rfl rfl d2 ?_
                          refine RW.pickC rfl rfl d2 rfl ?_
                          refine RW.call rfl ca29 rfl (fun w' _ => with_c w' (withF fl 256 (decide (y = 2))) 8 (by omega) (by decide) false) ?_
                          refine RW.assign rfl rfl ?_
                          refine RW.nil (EX.bkN ?_)
                          -- mq: joinend
                          rw [show FL = withF (withF fl 256 (decide (y = 2))) 8 false from by
                            rw [hF4, lineF, hy, d3, if_neg (by decide), if_pos rfl]; exact fl_4a fl hfl2]
                          exact EX.jn (by repeat (first | exact Sub.nil | refine Sub.cons (by rfl) ?_)) (fun _ h => h)
                      · skip
                        have d1p := of_decide_eq_false d1
                        refine RW.guardF rfl rfl rfl d1 ?_
                        refine RW.guardF rfl rfl rfl d1 ?_
                        refine RW.guardF rfl rfl rfl d1 ?_
                        refine RW.guardF rfl rfl rfl d1 ?_
                        refine RW.pickC rfl rfl d1 rfl ?_
                        refine RW.assign rfl rfl ?_
                        refine RW.nil (EX.seq (CW.seq ?_))
                        -- mq: region
                        refine CW.region ?_
                        refine RW.move rfl rfl ?_
                        refine RW.lenSl Tryd.underlying40 rfl rfl ?_
                        refine RW.gtr rfl rfl rfl ?_
                        refine RW.move rfl rfl ?_
                        refine RW.guardF rfl rfl rfl d1 ?_
                        refine RW.guardF rfl rfl rfl d1 ?_
                        refine RW.guardF rfl rfl rfl d1 ?_
                        refine RW.guardF rfl rfl rfl d1 ?_
                        refine RW.pickC rfl rfl d1 rfl ?_
                        refine RW.assign rfl rfl ?_
                        refine RW.nil (EX.seq ?_)
                        -- mq: region
                        have hw1 := withF_le false (n := fl) (f := 256) (by omega) (by omega)
                        refine CW.region ?_
                        refine RW.move rfl rfl ?_
                        refine RW.move rfl rfl ?_
                        refine RW.call rfl ca29 rfl (fun w' _ => with_c w' fl 256 (by omega) (by decide) false) ?_
                        refine RW.move rfl rfl ?_
                        refine RW.not_ rfl rfl ?_
                        refine RW.move rfl rfl ?_
                        refine RW.guardT rfl rfl rfl ?_
                        refine RW.move rfl rfl ?_
                        refine RW.guardT rfl rfl rfl ?_
                        refine RW.not_ rfl rfl ?_
                        refine RW.pickB rfl rfl rfl rfl ?_
                        refine RW.call rfl ca29 rfl (fun w' _ => with_c w' (withF fl 256 false) 8 (by omega) (by decide) true) ?_
                        refine RW.assign rfl rfl ?_
                        refine RW.nil (EX.bkN ?_)
                        -- mq: joinend
                        rw [show FL = withF (withF fl 256 false) 8 true from by
                          rw [hF4, lineF, List.getElem?_eq_none (show g.length ≤ 1 by omega), if_neg (by simp), if_neg (by simp)]; exact fl_4c fl hfl2]
                        exact EX.jn (by repeat (first | exact Sub.nil | refine Sub.cons (by rfl) ?_)) (fun _ h => h)
                    · skip
                      refine CW.seq (CW.seq (CW.region ?_))
                      refine RW.eqlI rfl rfl rfl ?_
                      refine RW.assign rfl rfl ?_
                      refine RW.nil (EX.seq ?_)
                      -- mq: cond
                      first | refine CW.condD rfl (fun c4 => ?_) (fun c4 => ?_) | refine CW.cond rfl (fun c4 => ?_) (fun c4 => ?_)
                      · skip
                        refine CW.skip (EX.seq ?_)
                        -- mq: cond
                        refine CW.condT rfl ((decide_eq_true c4)) ?_
                        refine CW.region ?_
                        refine RW.move rfl rfl ?_
                        -- mq: op 1: ('Op.call', ('Call.mk', ('Callee.value', ('Operand.func', '29')), ('arr', ('Operand.tmp', '110'), ('Operand.const', ('Value.int', 'IntKind.i64', '16')), ('Operand.const', ('Value.bool', 'true'))), ('arr', '3', '3', '4'))) -> slot 111 ("ref.go:123")
                        refine RW.call rfl ca29 rfl (fun w' _ => with_c w' (fl) 16 (by omega) (by decide) true) ?_
                        refine RW.assign rfl rfl ?_
                        refine RW.nil (EX.bkN ?_)
                        -- mq: joinend
                        rw [show k1 = fk from by rw [hk1, if_neg (by omega)]]
                        rw [show n1 = fn from by rw [hn1, if_neg (by omega)]]
                        rw [show k2 = bk from by rw [hk2, if_neg (by omega)]]
                        rw [show n2 = bn from by rw [hn2, if_neg (by omega)]]
                        rw [show FL = withF fl 16 true from by rw [hFL, fl2, if_neg (by omega), c4]; exact fl_5 fl hfl2]
                        exact EX.jn (by repeat (first | exact Sub.nil | refine Sub.cons (by rfl) ?_)) (fun _ h => h)
                      · skip
                        refine CW.region ?_
                        refine RW.eqlI rfl rfl rfl ?_
                        refine RW.assign rfl rfl ?_
                        refine RW.nil (EX.seq ?_)
                        -- mq: cond
                        first | refine CW.condD rfl (fun cc4 => ?_) (fun cc4 => ?_) | refine CW.cond rfl (fun cc4 => ?_) (fun cc4 => ?_)
                        · skip
                          refine CW.region ?_
                          refine RW.move rfl rfl ?_
                          -- mq: op 1: ('Op.call', ('Call.mk', ('Callee.value', ('Operand.func', '29')), ('arr', ('Operand.tmp', '110'), ('Operand.const', ('Value.int', 'IntKind.i64', '16')), ('Operand.const', ('Value.bool', 'true'))), ('arr', '3', '3', '4'))) -> slot 111 ("ref.go:123")
                          refine RW.call rfl ca29 rfl (fun w' _ => with_c w' (fl) 16 (by omega) (by decide) true) ?_
                          refine RW.assign rfl rfl ?_
                          refine RW.nil (EX.bkN ?_)
                          -- mq: joinend
                          rw [show k1 = fk from by rw [hk1, if_neg (by omega)]]
                          rw [show n1 = fn from by rw [hn1, if_neg (by omega)]]
                          rw [show k2 = bk from by rw [hk2, if_neg (by omega)]]
                          rw [show n2 = bn from by rw [hn2, if_neg (by omega)]]
                          rw [show FL = withF fl 16 true from by rw [hFL, fl2, if_neg (by omega), cc4]; exact fl_6 fl hfl2]
                          exact EX.jn (by repeat (first | exact Sub.nil | refine Sub.cons (by rfl) ?_)) (fun _ h => h)
                        · skip
                          refine CW.seq (CW.region ?_)
                          refine RW.eqlI rfl rfl rfl ?_
                          refine RW.assign rfl rfl ?_
                          refine RW.nil (EX.seq ?_)
                          -- mq: cond
                          first | refine CW.condD rfl (fun c5 => ?_) (fun c5 => ?_) | refine CW.cond rfl (fun c5 => ?_) (fun c5 => ?_)
                          · skip
                            refine CW.region ?_
                            refine RW.move rfl rfl ?_
                            -- mq: op 1: ('Op.call', ('Call.mk', ('Callee.value', ('Operand.func', '29')), ('arr', ('Operand.tmp', '114'), ('Operand.const', ('Value.int', 'IntKind.i64', '32')), ('Operand.const', ('Value.bool', 'true'))), ('arr', '3', '3', '4'))) -> slot 115 ("ref.go:125")
                            refine RW.call rfl ca29 rfl (fun w' _ => with_c w' (fl) 32 (by omega) (by decide) true) ?_
                            refine RW.assign rfl rfl ?_
                            refine RW.nil (EX.bkN ?_)
                            -- mq: joinend
                            rw [show k1 = fk from by rw [hk1, if_neg (by omega)]]
                            rw [show n1 = fn from by rw [hn1, if_neg (by omega)]]
                            rw [show k2 = bk from by rw [hk2, if_neg (by omega)]]
                            rw [show n2 = bn from by rw [hn2, if_neg (by omega)]]
                            rw [show FL = withF fl 32 true from by rw [hFL, fl2, if_neg (by omega), c5]; exact fl_7 fl hfl2]
                            exact EX.jn (by repeat (first | exact Sub.nil | refine Sub.cons (by rfl) ?_)) (fun _ h => h)
                          · skip
                            refine CW.seq (CW.region ?_)
                            refine RW.eqlI rfl rfl rfl ?_
                            refine RW.assign rfl rfl ?_
                            refine RW.nil (EX.seq ?_)
                            -- mq: cond
                            first | refine CW.condD rfl (fun c6 => ?_) (fun c6 => ?_) | refine CW.cond rfl (fun c6 => ?_) (fun c6 => ?_)
                            · skip
                              refine CW.region ?_
                              refine RW.move rfl rfl ?_
                              -- mq: op 1: ('Op.call', ('Call.mk', ('Callee.value', ('Operand.func', '29')), ('arr', ('Operand.tmp', '118'), ('Operand.const', ('Value.int', 'IntKind.i64', '64')), ('Operand.const', ('Value.bool', 'true'))), ('arr', '3', '3', '4'))) -> slot 119 ("ref.go:127")
                              refine RW.call rfl ca29 rfl (fun w' _ => with_c w' (fl) 64 (by omega) (by decide) true) ?_
                              refine RW.assign rfl rfl ?_
                              refine RW.nil (EX.bkN ?_)
                              -- mq: joinend
                              rw [show k1 = fk from by rw [hk1, if_neg (by omega)]]
                              rw [show n1 = fn from by rw [hn1, if_neg (by omega)]]
                              rw [show k2 = bk from by rw [hk2, if_neg (by omega)]]
                              rw [show n2 = bn from by rw [hn2, if_neg (by omega)]]
                              rw [show FL = withF fl 64 true from by rw [hFL, fl2, if_neg (by omega), c6]; exact fl_8 fl hfl2]
                              exact EX.jn (by repeat (first | exact Sub.nil | refine Sub.cons (by rfl) ?_)) (fun _ h => h)
                            · skip
                              refine CW.seq (CW.region ?_)
                              refine RW.eqlI rfl rfl rfl ?_
                              refine RW.assign rfl rfl ?_
                              refine RW.nil (EX.seq ?_)
                              -- mq: cond
                              first | refine CW.condD rfl (fun c7 => ?_) (fun c7 => ?_) | refine CW.cond rfl (fun c7 => ?_) (fun c7 => ?_)
                              · skip
                                refine CW.region ?_
                                refine RW.move rfl rfl ?_
                                -- mq: op 1: ('Op.call', ('Call.mk', ('Callee.value', ('Operand.func', '29')), ('arr', ('Operand.tmp', '122'), ('Operand.const', ('Value.int', 'IntKind.i64', '128')), ('Operand.const', ('Value.bool', 'true'))), ('arr', '3', '3', '4'))) -> slot 123 ("ref.go:129")
                                refine RW.call rfl ca29 rfl (fun w' _ => with_c w' (fl) 128 (by omega) (by decide) true) ?_
                                refine RW.assign rfl rfl ?_
                                refine RW.nil (EX.bkN ?_)
                                -- mq: joinend
                                rw [show k1 = fk from by rw [hk1, if_neg (by omega)]]
                                rw [show n1 = fn from by rw [hn1, if_neg (by omega)]]
                                rw [show k2 = bk from by rw [hk2, if_neg (by omega)]]
                                rw [show n2 = bn from by rw [hn2, if_neg (by omega)]]
                                rw [show FL = withF fl 128 true from by rw [hFL, fl2, if_neg (by omega), c7]; exact fl_9 fl hfl2]
                                exact EX.jn (by repeat (first | exact Sub.nil | refine Sub.cons (by rfl) ?_)) (fun _ h => h)
                              · skip
                                refine CW.seq (CW.region ?_)
                                refine RW.eqlI rfl rfl rfl ?_
                                refine RW.assign rfl rfl ?_
                                refine RW.nil (EX.seq ?_)
                                -- mq: cond
                                first | refine CW.condD rfl (fun c8 => ?_) (fun c8 => ?_) | refine CW.cond rfl (fun c8 => ?_) (fun c8 => ?_)
                                · skip
                                  refine CW.region ?_
                                  refine RW.move rfl rfl ?_
                                  -- mq: op 1: ('Op.call', ('Call.mk', ('Callee.value', ('Operand.func', '29')), ('arr', ('Operand.tmp', '126'), ('Operand.const', ('Value.int', 'IntKind.i64', '8')), ('Operand.const', ('Value.bool', 'false'))), ('arr', '3', '3', '4'))) -> slot 127 ("ref.go:131")
                                  refine RW.call rfl ca29 rfl (fun w' _ => with_c w' (fl) 8 (by omega) (by decide) false) ?_
                                  -- mq: op 2: ('Op.call', ('Call.mk', ('Callee.value', ('Operand.func', '29')), ('arr', ('Operand.tmp', '127'), ('Operand.const', ('Value.int', 'IntKind.i64', '256')), ('Operand.const', ('Value.bool', 'true'))), ('arr', '3', '3', '4'))) -> slot 128 ("ref.go:131")
                                  refine RW.call rfl ca29 rfl (fun w' _ => with_c w' (withF fl 8 false) 256 (by have := withF_le false (n := fl) (f := 8) (by omega) (by omega); omega) (by decide) true) ?_
                                  refine RW.assign rfl rfl ?_
                                  refine RW.nil (EX.bkN ?_)
                                  -- mq: joinend
                                  rw [show k1 = fk from by rw [hk1, if_neg (by omega)]]
                                  rw [show n1 = fn from by rw [hn1, if_neg (by omega)]]
                                  rw [show k2 = bk from by rw [hk2, if_neg (by omega)]]
                                  rw [show n2 = bn from by rw [hn2, if_neg (by omega)]]
                                  rw [show FL = withF (withF fl 8 false) 256 true from by rw [hFL, fl2, if_neg (by omega), c8]; exact fl_21 fl hfl2]
                                  exact EX.jn (by repeat (first | exact Sub.nil | refine Sub.cons (by rfl) ?_)) (fun _ h => h)
                                · skip
                                  refine CW.seq (CW.region ?_)
                                  refine RW.eqlI rfl rfl rfl ?_
                                  refine RW.assign rfl rfl ?_
                                  refine RW.nil (EX.seq ?_)
                                  -- mq: cond
                                  first | refine CW.condD rfl (fun c9 => ?_) (fun c9 => ?_) | refine CW.cond rfl (fun c9 => ?_) (fun c9 => ?_)
                                  · skip
                                    refine CW.region ?_
                                    refine RW.move rfl rfl ?_
                                    -- mq: op 1: ('Op.call', ('Call.mk', ('Callee.value', ('Operand.func', '29')), ('arr', ('Operand.tmp', '131'), ('Operand.const', ('Value.int', 'IntKind.i64', '1')), ('Operand.const', ('Value.bool', 'false'))), ('arr', '3', '3', '4'))) -> slot 132 ("ref.go:133")
                                    refine RW.call rfl ca29 rfl (fun w' _ => with_c w' (fl) 1 (by omega) (by decide) false) ?_
                                    -- mq: op 2: ('Op.call', ('Call.mk', ('Callee.value', ('Operand.func', '29')), ('arr', ('Operand.tmp', '132'), ('Operand.const', ('Value.int', 'IntKind.i64', '2')), ('Operand.const', ('Value.bool', 'false'))), ('arr', '3', '3', '4'))) -> slot 133 ("ref.go:133")
                                    refine RW.call rfl ca29 rfl (fun w' _ => with_c w' (withF fl 1 false) 2 (by have := withF_le false (n := fl) (f := 1) (by omega) (by omega); omega) (by decide) false) ?_
                                    refine RW.assign rfl rfl ?_
                                    refine RW.nil (EX.bkN ?_)
                                    -- mq: joinend
                                    rw [show k1 = fk from by rw [hk1, if_neg (by omega)]]
                                    rw [show n1 = fn from by rw [hn1, if_neg (by omega)]]
                                    rw [show k2 = bk from by rw [hk2, if_neg (by omega)]]
                                    rw [show n2 = bn from by rw [hn2, if_neg (by omega)]]
                                    rw [show FL = withF (withF fl 1 false) 2 false from by rw [hFL, fl2, if_neg (by omega), c9]; exact fl_22 fl hfl2]
                                    exact EX.jn (by repeat (first | exact Sub.nil | refine Sub.cons (by rfl) ?_)) (fun _ h => h)
                                  · skip
                                    refine CW.seq (CW.region ?_)
                                    refine RW.eqlI rfl rfl rfl ?_
                                    refine RW.assign rfl rfl ?_
                                    refine RW.nil (EX.seq ?_)
                                    -- mq: cond
                                    first | refine CW.condD rfl (fun c10 => ?_) (fun c10 => ?_) | refine CW.cond rfl (fun c10 => ?_) (fun c10 => ?_)
                                    · skip
                                      refine CW.region ?_
                                      refine RW.move rfl rfl ?_
                                      -- mq: op 1: ('Op.call', ('Call.mk', ('Callee.value', ('Operand.func', '29')), ('arr', ('Operand.tmp', '136'), ('Operand.const', ('Value.int', 'IntKind.i64', '4')), ('Operand.const', ('Value.bool', 'false'))), ('arr', '3', '3', '4'))) -> slot 137 ("ref.go:135")
                                      refine RW.call rfl ca29 rfl (fun w' _ => with_c w' (fl) 4 (by omega) (by decide) false) ?_
                                      refine RW.assign rfl rfl ?_
                                      refine RW.nil (EX.bkN ?_)
                                      -- mq: joinend
                                      rw [show k1 = fk from by rw [hk1, if_neg (by omega)]]
                                      rw [show n1 = fn from by rw [hn1, if_neg (by omega)]]
                                      rw [show k2 = bk from by rw [hk2, if_neg (by omega)]]
                                      rw [show n2 = bn from by rw [hn2, if_neg (by omega)]]
                                      rw [show FL = withF fl 4 false from by rw [hFL, fl2, if_neg (by omega), c10]; exact fl_23 fl hfl2]
                                      exact EX.jn (by repeat (first | exact Sub.nil | refine Sub.cons (by rfl) ?_)) (fun _ h => h)
                                    · skip
                                      refine CW.seq (CW.region ?_)
                                      refine RW.eqlI rfl rfl rfl ?_
                                      refine RW.assign rfl rfl ?_
                                      refine RW.nil (EX.seq ?_)
                                      -- mq: cond
                                      first | refine CW.condD rfl (fun c11 => ?_) (fun c11 => ?_) | refine CW.cond rfl (fun c11 => ?_) (fun c11 => ?_)
                                      · skip
                                        refine CW.region ?_
                                        refine RW.move rfl rfl ?_
                                        -- mq: op 1: ('Op.call', ('Call.mk', ('Callee.value', ('Operand.func', '29')), ('arr', ('Operand.tmp', '140'), ('Operand.const', ('Value.int', 'IntKind.i64', '8')), ('Operand.const', ('Value.bool', 'false'))), ('arr', '3', '3', '4'))) -> slot 141 ("ref.go:137")
                                        refine RW.call rfl ca29 rfl (fun w' _ => with_c w' (fl) 8 (by omega) (by decide) false) ?_
                                        -- mq: op 2: ('Op.call', ('Call.mk', ('Callee.value', ('Operand.func', '29')), ('arr', ('Operand.tmp', '141'), ('Operand.const', ('Value.int', 'IntKind.i64', '256')), ('Operand.const', ('Value.bool', 'false'))), ('arr', '3', '3', '4'))) -> slot 142 ("ref.go:137")
                                        refine RW.call rfl ca29 rfl (fun w' _ => with_c w' (withF fl 8 false) 256 (by have := withF_le false (n := fl) (f := 8) (by omega) (by omega); omega) (by decide) false) ?_
                                        refine RW.assign rfl rfl ?_
                                        refine RW.nil (EX.bkN ?_)
                                        -- mq: joinend
                                        rw [show k1 = fk from by rw [hk1, if_neg (by omega)]]
                                        rw [show n1 = fn from by rw [hn1, if_neg (by omega)]]
                                        rw [show k2 = bk from by rw [hk2, if_neg (by omega)]]
                                        rw [show n2 = bn from by rw [hn2, if_neg (by omega)]]
                                        rw [show FL = withF (withF fl 8 false) 256 false from by rw [hFL, fl2, if_neg (by omega), c11]; exact fl_24 fl hfl2]
                                        exact EX.jn (by repeat (first | exact Sub.nil | refine Sub.cons (by rfl) ?_)) (fun _ h => h)
                                      · skip
                                        refine CW.seq (CW.region ?_)
                                        refine RW.eqlI rfl rfl rfl ?_
                                        refine RW.assign rfl rfl ?_
                                        refine RW.nil (EX.seq ?_)
                                        -- mq: cond
                                        first | refine CW.condD rfl (fun c12 => ?_) (fun c12 => ?_) | refine CW.cond rfl (fun c12 => ?_) (fun c12 => ?_)
                                        · skip
                                          refine CW.region ?_
                                          refine RW.move rfl rfl ?_
                                          -- mq: op 1: ('Op.call', ('Call.mk', ('Callee.value', ('Operand.func', '29')), ('arr', ('Operand.tmp', '145'), ('Operand.const', ('Value.int', 'IntKind.i64', '16')), ('Operand.const', ('Value.bool', 'false'))), ('arr', '3', '3', '4'))) -> slot 146 ("ref.go:139")
                                          refine RW.call rfl ca29 rfl (fun w' _ => with_c w' (fl) 16 (by omega) (by decide) false) ?_
                                          refine RW.assign rfl rfl ?_
                                          refine RW.nil (EX.bkN ?_)
                                          -- mq: joinend
                                          rw [show k1 = fk from by rw [hk1, if_neg (by omega)]]
                                          rw [show n1 = fn from by rw [hn1, if_neg (by omega)]]
                                          rw [show k2 = bk from by rw [hk2, if_neg (by omega)]]
                                          rw [show n2 = bn from by rw [hn2, if_neg (by omega)]]
                                          rw [show FL = withF fl 16 false from by rw [hFL, fl2, if_neg (by omega), c12]; exact fl_25 fl hfl2]
                                          exact EX.jn (by repeat (first | exact Sub.nil | refine Sub.cons (by rfl) ?_)) (fun _ h => h)
                                        · skip
                                          refine CW.seq (CW.region ?_)
                                          refine RW.eqlI rfl rfl rfl ?_
                                          refine RW.assign rfl rfl ?_
                                          refine RW.nil (EX.seq ?_)
                                          -- mq: cond
                                          first | refine CW.condD rfl (fun c13 => ?_) (fun c13 => ?_) | refine CW.cond rfl (fun c13 => ?_) (fun c13 => ?_)
                                          · skip
                                            refine CW.region ?_
                                            refine RW.move rfl rfl ?_
                                            -- mq: op 1: ('Op.call', ('Call.mk', ('Callee.value', ('Operand.func', '29')), ('arr', ('Operand.tmp', '149'), ('Operand.const', ('Value.int', 'IntKind.i64', '32')), ('Operand.const', ('Value.bool', 'false'))), ('arr', '3', '3', '4'))) -> slot 150 ("ref.go:141")
                                            refine RW.call rfl ca29 rfl (fun w' _ => with_c w' (fl) 32 (by omega) (by decide) false) ?_
                                            refine RW.assign rfl rfl ?_
                                            refine RW.nil (EX.bkN ?_)
                                            -- mq: joinend
                                            rw [show k1 = fk from by rw [hk1, if_neg (by omega)]]
                                            rw [show n1 = fn from by rw [hn1, if_neg (by omega)]]
                                            rw [show k2 = bk from by rw [hk2, if_neg (by omega)]]
                                            rw [show n2 = bn from by rw [hn2, if_neg (by omega)]]
                                            rw [show FL = withF fl 32 false from by rw [hFL, fl2, if_neg (by omega), c13]; exact fl_27 fl hfl2]
                                            exact EX.jn (by repeat (first | exact Sub.nil | refine Sub.cons (by rfl) ?_)) (fun _ h => h)
                                          · skip
                                            refine CW.seq (CW.region ?_)
                                            refine RW.eqlI rfl rfl rfl ?_
                                            refine RW.assign rfl rfl ?_
                                            refine RW.nil (EX.seq ?_)
                                            -- mq: cond
                                            first | refine CW.condD rfl (fun c14 => ?_) (fun c14 => ?_) | refine CW.cond rfl (fun c14 => ?_) (fun c14 => ?_)
                                            · skip
                                              refine CW.region ?_
                                              refine RW.move rfl rfl ?_
                                              -- mq: op 1: ('Op.call', ('Call.mk', ('Callee.value', ('Operand.func', '29')), ('arr', ('Operand.tmp', '153'), ('Operand.const', ('Value.int', 'IntKind.i64', '64')), ('Operand.const', ('Value.bool', 'false'))), ('arr', '3', '3', '4'))) -> slot 154 ("ref.go:143")
                                              refine RW.call rfl ca29 rfl (fun w' _ => with_c w' (fl) 64 (by omega) (by decide) false) ?_
                                              refine RW.assign rfl rfl ?_
                                              refine RW.nil (EX.bkN ?_)
                                              -- mq: joinend
                                              rw [show k1 = fk from by rw [hk1, if_neg (by omega)]]
                                              rw [show n1 = fn from by rw [hn1, if_neg (by omega)]]
                                              rw [show k2 = bk from by rw [hk2, if_neg (by omega)]]
                                              rw [show n2 = bn from by rw [hn2, if_neg (by omega)]]
                                              rw [show FL = withF fl 64 false from by rw [hFL, fl2, if_neg (by omega), c14]; exact fl_28 fl hfl2]
                                              exact EX.jn (by repeat (first | exact Sub.nil | refine Sub.cons (by rfl) ?_)) (fun _ h => h)
                                            · skip
                                              refine CW.seq (CW.region ?_)
                                              refine RW.eqlI rfl rfl rfl ?_
                                              refine RW.assign rfl rfl ?_
                                              refine RW.nil (EX.seq ?_)
                                              -- mq: cond
                                              first | refine CW.condD rfl (fun c15 => ?_) (fun c15 => ?_) | refine CW.cond rfl (fun c15 => ?_) (fun c15 => ?_)
                                              · skip
                                                refine CW.region ?_
                                                refine RW.move rfl rfl ?_
                                                -- mq: op 1: ('Op.call', ('Call.mk', ('Callee.value', ('Operand.func', '29')), ('arr', ('Operand.tmp', '157'), ('Operand.const', ('Value.int', 'IntKind.i64', '128')), ('Operand.const', ('Value.bool', 'false'))), ('arr', '3', '3', '4'))) -> slot 158 ("ref.go:145")
                                                refine RW.call rfl ca29 rfl (fun w' _ => with_c w' (fl) 128 (by omega) (by decide) false) ?_
                                                refine RW.assign rfl rfl ?_
                                                refine RW.nil (EX.bkN ?_)
                                                -- mq: joinend
                                                rw [show k1 = fk from by rw [hk1, if_neg (by omega)]]
                                                rw [show n1 = fn from by rw [hn1, if_neg (by omega)]]
                                                rw [show k2 = bk from by rw [hk2, if_neg (by omega)]]
                                                rw [show n2 = bn from by rw [hn2, if_neg (by omega)]]
                                                rw [show FL = withF fl 128 false from by rw [hFL, fl2, if_neg (by omega), c15]; exact fl_29 fl hfl2]
                                                exact EX.jn (by repeat (first | exact Sub.nil | refine Sub.cons (by rfl) ?_)) (fun _ h => h)
                                              · skip
                                                refine CW.seq (CW.region ?_)
                                                refine RW.eqlI rfl rfl rfl ?_
                                                refine RW.assign rfl rfl ?_
                                                refine RW.nil (EX.seq ?_)
                                                -- mq: cond
                                                first | refine CW.condD rfl (fun c16 => ?_) (fun c16 => ?_) | refine CW.cond rfl (fun c16 => ?_) (fun c16 => ?_)
                                                · skip
                                                  refine CW.region ?_
                                                  refine RW.move rfl rfl ?_
                                                  -- mq: op 1: ('Op.call', ('Call.mk', ('Callee.value', ('Operand.func', '29')), ('arr', ('Operand.tmp', '161'), ('Operand.const', ('Value.int', 'IntKind.i64', '512')), ('Operand.const', ('Value.bool', 'true'))), ('arr', '3', '3', '4'))) -> slot 162 ("ref.go:147")
                                                  refine RW.call rfl ca29 rfl (fun w' _ => with_c w' (fl) 512 (by omega) (by decide) true) ?_
                                                  refine RW.assign rfl rfl ?_
                                                  refine RW.nil (EX.bkN ?_)
                                                  -- mq: joinend
                                                  rw [show k1 = fk from by rw [hk1, if_neg (by omega)]]
                                                  rw [show n1 = fn from by rw [hn1, if_neg (by omega)]]
                                                  rw [show k2 = bk from by rw [hk2, if_neg (by omega)]]
                                                  rw [show n2 = bn from by rw [hn2, if_neg (by omega)]]
                                                  rw [show FL = withF fl 512 true from by rw [hFL, fl2, if_neg (by omega), c16]; exact fl_53 fl hfl2]
                                                  exact EX.jn (by repeat (first | exact Sub.nil | refine Sub.cons (by rfl) ?_)) (fun _ h => h)
                                                · skip
                                                  refine CW.seq (CW.region ?_)
                                                  refine RW.eqlI rfl rfl rfl ?_
                                                  refine RW.assign rfl rfl ?_
                                                  refine RW.nil (EX.seq ?_)
                                                  -- mq: cond
                                                  first | refine CW.condD rfl (fun c17 => ?_) (fun c17 => ?_) | refine CW.cond rfl (fun c17 => ?_) (fun c17 => ?_)
                                                  · skip
                                                    refine CW.region ?_
                                                    refine RW.move rfl rfl ?_
                                                    -- mq: op 1: ('Op.call', ('Call.mk', ('Callee.value', ('Operand.func', '29')), ('arr', ('Operand.tmp', '165'), ('Operand.const', ('Value.int', 'IntKind.i64', '512')), ('Operand.const', ('Value.bool', 'false'))), ('arr', '3', '3', '4'))) -> slot 166 ("ref.go:149")
                                                    refine RW.call rfl ca29 rfl (fun w' _ => with_c w' (fl) 512 (by omega) (by decide) false) ?_
                                                    refine RW.assign rfl rfl ?_
                                                    refine RW.nil (EX.bkN ?_)
                                                    -- mq: joinend
                                                    rw [show k1 = fk from by rw [hk1, if_neg (by omega)]]
                                                    rw [show n1 = fn from by rw [hn1, if_neg (by omega)]]
                                                    rw [show k2 = bk from by rw [hk2, if_neg (by omega)]]
                                                    rw [show n2 = bn from by rw [hn2, if_neg (by omega)]]
                                                    rw [show FL = withF fl 512 false from by rw [hFL, fl2, if_neg (by omega), c17]; exact fl_55 fl hfl2]
                                                    exact EX.jn (by repeat (first | exact Sub.nil | refine Sub.cons (by rfl) ?_)) (fun _ h => h)
                                                  · skip
                                                    rw [show FL = fl from by rw [hFL, fl2, if_neg (by omega)]; exact fl_no hfl2 (by omega)]
                                                    refine CW.seq (CW.region ?_)
                                                    refine RW.eqlI rfl rfl rfl ?_
                                                    refine RW.assign rfl rfl ?_
                                                    refine RW.nil (EX.seq ?_)
                                                    -- mq: cond
                                                    first | refine CW.condD rfl (fun c39 => ?_) (fun c39 => ?_) | refine CW.cond rfl (fun c39 => ?_) (fun c39 => ?_)
                                                    · skip
                                                      refine CW.region ?_
                                                      refine RW.buildS bu23 rfl rfl rfl ?_
                                                      refine RW.fieldB fl25x0 rfl rfl ?_
                                                      refine RW.storeA ag23 rfl rfl (by first | exact Upd.head | exact Upd.tail Upd.head | exact Upd.tail (Upd.tail Upd.head) | exact Upd.tail (Upd.tail (Upd.tail Upd.head)) | exact Upd.tail (Upd.tail (Upd.tail (Upd.tail Upd.head))) | exact Upd.tail (Upd.tail (Upd.tail (Upd.tail (Upd.tail Upd.head)))) | exact Upd.tail (Upd.tail (Upd.tail (Upd.tail (Upd.tail (Upd.tail Upd.head)))))) (by first | rfl | exact Enc.len _ _) (by repeat (first | exact Ones.nil | exact Enc.ones _ _ | refine Ones.cons rfl ?_)) (by first | exact Nat.le_of_ble_eq_true rfl | (simp only [Enc.len]; decide)) ?_
                                                      refine RW.nil (EX.bkN ?_)
                                                      -- mq: joinend
                                                      rw [show k1 = 0 from by rw [hk1, if_pos c39], show n1 = 0 from by rw [hn1, if_pos c39], show k2 = bk from by rw [hk2, if_neg (by omega)], show n2 = bn from by rw [hn2, if_neg (by omega)]]
                                                      exact EX.jn (by repeat (first | exact Sub.nil | refine Sub.cons (by rfl) ?_)) (fun _ h => h)
                                                    · skip
                                                      rw [show k1 = fk from by rw [hk1, if_neg c39], show n1 = fn from by rw [hn1, if_neg c39]]
                                                      refine CW.seq (CW.region ?_)
                                                      refine RW.eqlI rfl rfl rfl ?_
                                                      refine RW.assign rfl rfl ?_
                                                      refine RW.nil (EX.seq ?_)
                                                      -- mq: cond
                                                      first | refine CW.condD rfl (fun c49 => ?_) (fun c49 => ?_) | refine CW.cond rfl (fun c49 => ?_) (fun c49 => ?_)
                                                      · skip
                                                        refine CW.region ?_
                                                        refine RW.buildS bu23 rfl rfl rfl ?_
                                                        refine RW.fieldB fl25x1 rfl rfl ?_
                                                        refine RW.storeA ag23 rfl rfl (by first | exact Upd.head | exact Upd.tail Upd.head | exact Upd.tail (Upd.tail Upd.head) | exact Upd.tail (Upd.tail (Upd.tail Upd.head)) | exact Upd.tail (Upd.tail (Upd.tail (Upd.tail Upd.head))) | exact Upd.tail (Upd.tail (Upd.tail (Upd.tail (Upd.tail Upd.head)))) | exact Upd.tail (Upd.tail (Upd.tail (Upd.tail (Upd.tail (Upd.tail Upd.head)))))) (by first | rfl | exact Enc.len _ _) (by repeat (first | exact Ones.nil | exact Enc.ones _ _ | refine Ones.cons rfl ?_)) (by first | exact Nat.le_of_ble_eq_true rfl | (simp only [Enc.len]; decide)) ?_
                                                        refine RW.nil (EX.bkN ?_)
                                                        -- mq: joinend
                                                        rw [show k2 = 0 from by rw [hk2, if_pos c49], show n2 = 0 from by rw [hn2, if_pos c49]]
                                                        exact EX.jn (by repeat (first | exact Sub.nil | refine Sub.cons (by rfl) ?_)) (fun _ h => h)
                                                      · skip
                                                        refine CW.skip (EX.bkN ?_)
                                                        -- mq: joinend
                                                        rw [show k2 = bk from by rw [hk2, if_neg c49], show n2 = bn from by rw [hn2, if_neg c49]]
                                                        exact EX.jn (by repeat (first | exact Sub.nil | refine Sub.cons (by rfl) ?_)) (fun _ h => h)
            · skip
              have hcs : (0 ≤ v ∧ v ≤ 29) ∨ (30 ≤ v ∧ v ≤ 37) ∨ (38 ≤ v ∧ v ≤ 39) ∨ (40 ≤ v ∧ v ≤ 47) ∨ (48 ≤ v ∧ v ≤ 89) ∨ (90 ≤ v ∧ v ≤ 97) ∨ (98 ≤ v ∧ v ≤ 99) ∨ (100 ≤ v ∧ v ≤ 107) ∨ (108 ≤ v ∧ v ≤ 65535) := by omega
              rcases hcs with hiv0 | hiv1 | hiv2 | hiv3 | hiv4 | hiv5 | hiv6 | hiv7 | hiv8
              · skip
                refine EX.seq (CW.seq (CW.region ?_))
                refine RW.move rfl rfl ?_
                refine RW.fieldB fl25x2 rfl rfl ?_
                refine RW.store1 sc3 rfl rfl (by first | exact Upd.head | exact Upd.tail Upd.head | exact Upd.tail (Upd.tail Upd.head) | exact Upd.tail (Upd.tail (Upd.tail Upd.head)) | exact Upd.tail (Upd.tail (Upd.tail (Upd.tail Upd.head))) | exact Upd.tail (Upd.tail (Upd.tail (Upd.tail (Upd.tail Upd.head)))) | exact Upd.tail (Upd.tail (Upd.tail (Upd.tail (Upd.tail (Upd.tail Upd.head)))))) rfl (by first | exact Nat.le_of_ble_eq_true rfl | simp) ?_
                refine RW.nil (EX.seq (CW.seq (CW.seq (CW.region ?_))))
                refine RW.move rfl rfl ?_
                refine RW.geq rfl rfl rfl ?_
                refine RW.move rfl rfl ?_
                refine RW.guardF rfl rfl rfl (decide_eq_false (by omega)) ?_
                refine RW.guardF rfl rfl rfl (decide_eq_false (by omega)) ?_
                refine RW.pickC rfl rfl (decide_eq_false (by omega)) rfl ?_
                refine RW.nil (EX.seq ?_)
                -- mq: cond
                refine CW.condF rfl (rfl) ?_
                refine CW.skip (EX.seq (CW.seq (CW.seq (CW.region ?_))))
                refine RW.move rfl rfl ?_
                refine RW.geq rfl rfl rfl ?_
                refine RW.move rfl rfl ?_
                refine RW.guardF rfl rfl rfl (decide_eq_false (by omega)) ?_
                refine RW.guardF rfl rfl rfl (decide_eq_false (by omega)) ?_
                refine RW.pickC rfl rfl (decide_eq_false (by omega)) rfl ?_
                refine RW.nil (EX.seq ?_)
                -- mq: cond
                refine CW.condF rfl (rfl) ?_
                refine CW.skip (EX.seq (CW.seq (CW.seq (CW.region ?_))))
                refine RW.move rfl rfl ?_
                refine RW.geq rfl rfl rfl ?_
                refine RW.move rfl rfl ?_
                refine RW.guardF rfl rfl rfl (decide_eq_false (by omega)) ?_
                refine RW.guardF rfl rfl rfl (decide_eq_false (by omega)) ?_
                refine RW.pickC rfl rfl (decide_eq_false (by omega)) rfl ?_
                refine RW.nil (EX.seq ?_)
                -- mq: cond
                refine CW.condF rfl (rfl) ?_
                refine CW.skip (EX.seq (CW.seq (CW.region ?_)))
                refine RW.move rfl rfl ?_
                refine RW.geq rfl rfl rfl ?_
                refine RW.move rfl rfl ?_
                refine RW.guardF rfl rfl rfl (decide_eq_false (by omega)) ?_
                refine RW.guardF rfl rfl rfl (decide_eq_false (by omega)) ?_
                refine RW.pickC rfl rfl (decide_eq_false (by omega)) rfl ?_
                refine RW.nil (EX.seq ?_)
                -- mq: cond
                refine CW.condF rfl (rfl) ?_
                refine CW.skip (EX.bkN ?_)
                -- mq: loopend
                have hp1 : palK v 30 90 (fk, fn) = (k1, n1) := by
                  unfold palK; repeat (first | rw [if_pos (by omega)] | rw [if_neg (by omega)] | split)
                  all_goals first | (refine Prod.ext ?_ ?_ <;> dsimp only <;> omega)
                have hp2 : palK v 40 100 (bk, bn) = (k2, n2) := by
                  unfold palK; repeat (first | rw [if_pos (by omega)] | rw [if_neg (by omega)] | split)
                  all_goals first | (refine Prod.ext ?_ ?_ <;> dsimp only <;> omega)
                refine EX.lpN (i + 1, ⟨k1, n1, k2, n2, (FL : Int)⟩) ⟨by dsimp only; omega, ⟨by dsimp only; omega, by dsimp only; omega⟩, by dsimp only; rw [← hturn, turnF_in hi2 (hstep.trans (by rw [hp1, hp2]))]⟩ (by dsimp only; omega) (by repeat (first | exact Sub.nil | refine Sub.cons (by rfl) ?_)) (fun w' hw' => hw')
              · skip
                refine EX.seq (CW.seq (CW.region ?_))
                refine RW.move rfl rfl ?_
                refine RW.fieldB fl25x2 rfl rfl ?_
                refine RW.store1 sc3 rfl rfl (by first | exact Upd.head | exact Upd.tail Upd.head | exact Upd.tail (Upd.tail Upd.head) | exact Upd.tail (Upd.tail (Upd.tail Upd.head)) | exact Upd.tail (Upd.tail (Upd.tail (Upd.tail Upd.head))) | exact Upd.tail (Upd.tail (Upd.tail (Upd.tail (Upd.tail Upd.head)))) | exact Upd.tail (Upd.tail (Upd.tail (Upd.tail (Upd.tail (Upd.tail Upd.head)))))) rfl (by first | exact Nat.le_of_ble_eq_true rfl | simp) ?_
                refine RW.nil (EX.seq (CW.seq (CW.seq (CW.region ?_))))
                refine RW.move rfl rfl ?_
                refine RW.geq rfl rfl rfl ?_
                refine RW.move rfl rfl ?_
                refine RW.guardT rfl rfl (decide_eq_true (by omega)) ?_
                refine RW.move rfl rfl ?_
                refine RW.guardT rfl rfl (decide_eq_true (by omega)) ?_
                refine RW.leq rfl rfl rfl ?_
                refine RW.pickB rfl rfl (decide_eq_true (by omega)) rfl ?_
                refine RW.nil (EX.seq ?_)
                -- mq: cond
                refine CW.condT rfl ((decide_eq_true (by omega))) ?_
                refine CW.region ?_
                refine RW.move rfl rfl ?_
                refine RW.sub_ rfl rfl rfl (wrap64 (by omega) (by omega)) ?_
                refine RW.buildS bu23 rfl rfl rfl ?_
                refine RW.fieldB fl25x0 rfl rfl ?_
                refine RW.storeA ag23 rfl rfl (by first | exact Upd.head | exact Upd.tail Upd.head | exact Upd.tail (Upd.tail Upd.head) | exact Upd.tail (Upd.tail (Upd.tail Upd.head)) | exact Upd.tail (Upd.tail (Upd.tail (Upd.tail Upd.head))) | exact Upd.tail (Upd.tail (Upd.tail (Upd.tail (Upd.tail Upd.head)))) | exact Upd.tail (Upd.tail (Upd.tail (Upd.tail (Upd.tail (Upd.tail Upd.head)))))) (by first | rfl | exact Enc.len _ _) (by repeat (first | exact Ones.nil | exact Enc.ones _ _ | refine Ones.cons rfl ?_)) (by first | exact Nat.le_of_ble_eq_true rfl | (simp only [Enc.len]; decide)) ?_
                refine RW.nil (EX.seq (CW.seq (CW.seq (CW.region ?_))))
                refine RW.move rfl rfl ?_
                refine RW.geq rfl rfl rfl ?_
                refine RW.move rfl rfl ?_
                refine RW.guardF rfl rfl rfl (decide_eq_false (by omega)) ?_
                refine RW.guardF rfl rfl rfl (decide_eq_false (by omega)) ?_
                refine RW.pickC rfl rfl (decide_eq_false (by omega)) rfl ?_
                refine RW.nil (EX.seq ?_)
                -- mq: cond
                refine CW.condF rfl (rfl) ?_
                refine CW.skip (EX.seq (CW.seq (CW.seq (CW.region ?_))))
                refine RW.move rfl rfl ?_
                refine RW.geq rfl rfl rfl ?_
                refine RW.move rfl rfl ?_
                refine RW.guardF rfl rfl rfl (decide_eq_false (by omega)) ?_
                refine RW.guardF rfl rfl rfl (decide_eq_false (by omega)) ?_
                refine RW.pickC rfl rfl (decide_eq_false (by omega)) rfl ?_
                refine RW.nil (EX.seq ?_)
                -- mq: cond
                refine CW.condF rfl (rfl) ?_
                refine CW.skip (EX.seq (CW.seq (CW.region ?_)))
                refine RW.move rfl rfl ?_
                refine RW.geq rfl rfl rfl ?_
                refine RW.move rfl rfl ?_
                refine RW.guardF rfl rfl rfl (decide_eq_false (by omega)) ?_
                refine RW.guardF rfl rfl rfl (decide_eq_false (by omega)) ?_
                refine RW.pickC rfl rfl (decide_eq_false (by omega)) rfl ?_
                refine RW.nil (EX.seq ?_)
                -- mq: cond
                refine CW.condF rfl (rfl) ?_
                refine CW.skip (EX.bkN ?_)
                -- mq: loopend
                have hp1 : palK v 30 90 (fk, fn) = (1, v - 30) := by
                  unfold palK; repeat (first | rw [if_pos (by omega)] | rw [if_neg (by omega)] | split)
                  all_goals first | (refine Prod.ext ?_ ?_ <;> dsimp only <;> omega)
                have hp2 : palK v 40 100 (bk, bn) = (k2, n2) := by
                  unfold palK; repeat (first | rw [if_pos (by omega)] | rw [if_neg (by omega)] | split)
                  all_goals first | (refine Prod.ext ?_ ?_ <;> dsimp only <;> omega)
                refine EX.lpN (i + 1, ⟨1, v - 30, k2, n2, (FL : Int)⟩) ⟨by dsimp only; omega, ⟨by dsimp only; omega, by dsimp only; omega⟩, by dsimp only; rw [← hturn, turnF_in hi2 (hstep.trans (by rw [hp1, hp2]))]⟩ (by dsimp only; omega) (by repeat (first | exact Sub.nil | refine Sub.cons (by rfl) ?_)) (fun w' hw' => hw')
              · skip
                refine EX.seq (CW.seq (CW.region ?_))
                refine RW.move rfl rfl ?_
                refine RW.fieldB fl25x2 rfl rfl ?_
                refine RW.store1 sc3 rfl rfl (by first | exact Upd.head | exact Upd.tail Upd.head | exact Upd.tail (Upd.tail Upd.head) | exact Upd.tail (Upd.tail (Upd.tail Upd.head)) | exact Upd.tail (Upd.tail (Upd.tail (Upd.tail Upd.head))) | exact Upd.tail (Upd.tail (Upd.tail (Upd.tail (Upd.tail Upd.head)))) | exact Upd.tail (Upd.tail (Upd.tail (Upd.tail (Upd.tail (Upd.tail Upd.head)))))) rfl (by first | exact Nat.le_of_ble_eq_true rfl | simp) ?_
                refine RW.nil (EX.seq (CW.seq (CW.seq (CW.region ?_))))
                refine RW.move rfl rfl ?_
                refine RW.geq rfl rfl rfl ?_
                refine RW.move rfl rfl ?_
                refine RW.guardT rfl rfl (decide_eq_true (by omega)) ?_
                refine RW.move rfl rfl ?_
                refine RW.guardT rfl rfl (decide_eq_true (by omega)) ?_
                refine RW.leq rfl rfl rfl ?_
                refine RW.pickB rfl rfl (decide_eq_true (by omega)) rfl ?_
                refine RW.nil (EX.seq ?_)
                -- mq: cond
                refine CW.condF rfl ((decide_eq_false (by omega))) ?_
                refine CW.skip (EX.seq (CW.seq (CW.seq (CW.region ?_))))
                refine RW.move rfl rfl ?_
                refine RW.geq rfl rfl rfl ?_
                refine RW.move rfl rfl ?_
                refine RW.guardF rfl rfl rfl (decide_eq_false (by omega)) ?_
                refine RW.guardF rfl rfl rfl (decide_eq_false (by omega)) ?_
                refine RW.pickC rfl rfl (decide_eq_false (by omega)) rfl ?_
                refine RW.nil (EX.seq ?_)
                -- mq: cond
                refine CW.condF rfl (rfl) ?_
                refine CW.skip (EX.seq (CW.seq (CW.seq (CW.region ?_))))
                refine RW.move rfl rfl ?_
                refine RW.geq rfl rfl rfl ?_
                refine RW.move rfl rfl ?_
                refine RW.guardF rfl rfl rfl (decide_eq_false (by omega)) ?_
                refine RW.guardF rfl rfl rfl (decide_eq_false (by omega)) ?_
                refine RW.pickC rfl rfl (decide_eq_false (by omega)) rfl ?_
                refine RW.nil (EX.seq ?_)
                -- mq: cond
                refine CW.condF rfl (rfl) ?_
                refine CW.skip (EX.seq (CW.seq (CW.region ?_)))
                refine RW.move rfl rfl ?_
                refine RW.geq rfl rfl rfl ?_
                refine RW.move rfl rfl ?_
                refine RW.guardF rfl rfl rfl (decide_eq_false (by omega)) ?_
                refine RW.guardF rfl rfl rfl (decide_eq_false (by omega)) ?_
                refine RW.pickC rfl rfl (decide_eq_false (by omega)) rfl ?_
                refine RW.nil (EX.seq ?_)
                -- mq: cond
                refine CW.condF rfl (rfl) ?_
                refine CW.skip (EX.bkN ?_)
                -- mq: loopend
                have hp1 : palK v 30 90 (fk, fn) = (k1, n1) := by
                  unfold palK; repeat (first | rw [if_pos (by omega)] | rw [if_neg (by omega)] | split)
                  all_goals first | (refine Prod.ext ?_ ?_ <;> dsimp only <;> omega)
                have hp2 : palK v 40 100 (bk, bn) = (k2, n2) := by
                  unfold palK; repeat (first | rw [if_pos (by omega)] | rw [if_neg (by omega)] | split)
                  all_goals first | (refine Prod.ext ?_ ?_ <;> dsimp only <;> omega)
                refine EX.lpN (i + 1, ⟨k1, n1, k2, n2, (FL : Int)⟩) ⟨by dsimp only; omega, ⟨by dsimp only; omega, by dsimp only; omega⟩, by dsimp only; rw [← hturn, turnF_in hi2 (hstep.trans (by rw [hp1, hp2]))]⟩ (by dsimp only; omega) (by repeat (first | exact Sub.nil | refine Sub.cons (by rfl) ?_)) (fun w' hw' => hw')
              · skip
                refine EX.seq (CW.seq (CW.region ?_))
                refine RW.move rfl rfl ?_
                refine RW.fieldB fl25x2 rfl rfl ?_
                refine RW.store1 sc3 rfl rfl (by first | exact Upd.head | exact Upd.tail Upd.head | exact Upd.tail (Upd.tail Upd.head) | exact Upd.tail (Upd.tail (Upd.tail Upd.head)) | exact Upd.tail (Upd.tail (Upd.tail (Upd.tail Upd.head))) | exact Upd.tail (Upd.tail (Upd.tail (Upd.tail (Upd.tail Upd.head)))) | exact Upd.tail (Upd.tail (Upd.tail (Upd.tail (Upd.tail (Upd.tail Upd.head)))))) rfl (by first | exact Nat.le_of_ble_eq_true rfl | simp) ?_
                refine RW.nil (EX.seq (CW.seq (CW.seq (CW.region ?_))))
                refine RW.move rfl rfl ?_
                refine RW.geq rfl rfl rfl ?_
                refine RW.move rfl rfl ?_
                refine RW.guardT rfl rfl (decide_eq_true (by omega)) ?_
                refine RW.move rfl rfl ?_
                refine RW.guardT rfl rfl (decide_eq_true (by omega)) ?_
                refine RW.leq rfl rfl rfl ?_
                refine RW.pickB rfl rfl (decide_eq_true (by omega)) rfl ?_
                refine RW.nil (EX.seq ?_)
                -- mq: cond
                refine CW.condF rfl ((decide_eq_false (by omega))) ?_
                refine CW.skip (EX.seq (CW.seq (CW.seq (CW.region ?_))))
                refine RW.move rfl rfl ?_
                refine RW.geq rfl rfl rfl ?_
                refine RW.move rfl rfl ?_
                refine RW.guardF rfl rfl rfl (decide_eq_false (by omega)) ?_
                refine RW.guardF rfl rfl rfl (decide_eq_false (by omega)) ?_
                refine RW.pickC rfl rfl (decide_eq_false (by omega)) rfl ?_
                refine RW.nil (EX.seq ?_)
                -- mq: cond
                refine CW.condF rfl (rfl) ?_
                refine CW.skip (EX.seq (CW.seq (CW.seq (CW.region ?_))))
                refine RW.move rfl rfl ?_
                refine RW.geq rfl rfl rfl ?_
                refine RW.move rfl rfl ?_
                refine RW.guardT rfl rfl (decide_eq_true (by omega)) ?_
                refine RW.move rfl rfl ?_
                refine RW.guardT rfl rfl (decide_eq_true (by omega)) ?_
                refine RW.leq rfl rfl rfl ?_
                refine RW.pickB rfl rfl (decide_eq_true (by omega)) rfl ?_
                refine RW.nil (EX.seq ?_)
                -- mq: cond
                refine CW.condT rfl ((decide_eq_true (by omega))) ?_
                refine CW.region ?_
                refine RW.move rfl rfl ?_
                refine RW.sub_ rfl rfl rfl (wrap64 (by omega) (by omega)) ?_
                refine RW.buildS bu23 rfl rfl rfl ?_
                refine RW.fieldB fl25x1 rfl rfl ?_
                refine RW.storeA ag23 rfl rfl (by first | exact Upd.head | exact Upd.tail Upd.head | exact Upd.tail (Upd.tail Upd.head) | exact Upd.tail (Upd.tail (Upd.tail Upd.head)) | exact Upd.tail (Upd.tail (Upd.tail (Upd.tail Upd.head))) | exact Upd.tail (Upd.tail (Upd.tail (Upd.tail (Upd.tail Upd.head)))) | exact Upd.tail (Upd.tail (Upd.tail (Upd.tail (Upd.tail (Upd.tail Upd.head)))))) (by first | rfl | exact Enc.len _ _) (by repeat (first | exact Ones.nil | exact Enc.ones _ _ | refine Ones.cons rfl ?_)) (by first | exact Nat.le_of_ble_eq_true rfl | (simp only [Enc.len]; decide)) ?_
                refine RW.nil (EX.seq (CW.seq (CW.region ?_)))
                refine RW.move rfl rfl ?_
                refine RW.geq rfl rfl rfl ?_
                refine RW.move rfl rfl ?_
                refine RW.guardF rfl rfl rfl (decide_eq_false (by omega)) ?_
                refine RW.guardF rfl rfl rfl (decide_eq_false (by omega)) ?_
                refine RW.pickC rfl rfl (decide_eq_false (by omega)) rfl ?_
                refine RW.nil (EX.seq ?_)
                -- mq: cond
                refine CW.condF rfl (rfl) ?_
                refine CW.skip (EX.bkN ?_)
                -- mq: loopend
                have hp1 : palK v 30 90 (fk, fn) = (k1, n1) := by
                  unfold palK; repeat (first | rw [if_pos (by omega)] | rw [if_neg (by omega)] | split)
                  all_goals first | (refine Prod.ext ?_ ?_ <;> dsimp only <;> omega)
                have hp2 : palK v 40 100 (bk, bn) = (1, v - 40) := by
                  unfold palK; repeat (first | rw [if_pos (by omega)] | rw [if_neg (by omega)] | split)
                  all_goals first | (refine Prod.ext ?_ ?_ <;> dsimp only <;> omega)
                refine EX.lpN (i + 1, ⟨k1, n1, 1, v - 40, (FL : Int)⟩) ⟨by dsimp only; omega, ⟨by dsimp only; omega, by dsimp only; omega⟩, by dsimp only; rw [← hturn, turnF_in hi2 (hstep.trans (by rw [hp1, hp2]))]⟩ (by dsimp only; omega) (by repeat (first | exact Sub.nil | refine Sub.cons (by rfl) ?_)) (fun w' hw' => hw')
              · skip
                refine EX.seq (CW.seq (CW.region ?_))
                refine RW.move rfl rfl ?_
                refine RW.fieldB fl25x2 rfl rfl ?_
                refine RW.store1 sc3 rfl rfl (by first | exact Upd.head | exact Upd.tail Upd.head | exact Upd.tail (Upd.tail Upd.head) | exact Upd.tail (Upd.tail (Upd.tail Upd.head)) | exact Upd.tail (Upd.tail (Upd.tail (Upd.tail Upd.head))) | exact Upd.tail (Upd.tail (Upd.tail (Upd.tail (Upd.tail Upd.head)))) | exact Upd.tail (Upd.tail (Upd.tail (Upd.tail (Upd.tail (Upd.tail Upd.head)))))) rfl (by first | exact Nat.le_of_ble_eq_true rfl | simp) ?_
                refine RW.nil (EX.seq (CW.seq (CW.seq (CW.region ?_))))
                refine RW.move rfl rfl ?_
                refine RW.geq rfl rfl rfl ?_
                refine RW.move rfl rfl ?_
                refine RW.guardT rfl rfl (decide_eq_true (by omega)) ?_
                refine RW.move rfl rfl ?_
                refine RW.guardT rfl rfl (decide_eq_true (by omega)) ?_
                refine RW.leq rfl rfl rfl ?_
                refine RW.pickB rfl rfl (decide_eq_true (by omega)) rfl ?_
                refine RW.nil (EX.seq ?_)
                -- mq: cond
                refine CW.condF rfl ((decide_eq_false (by omega))) ?_
                refine CW.skip (EX.seq (CW.seq (CW.seq (CW.region ?_))))
                refine RW.move rfl rfl ?_
                refine RW.geq rfl rfl rfl ?_
                refine RW.move rfl rfl ?_
                refine RW.guardF rfl rfl rfl (decide_eq_false (by omega)) ?_
                refine RW.guardF rfl rfl rfl (decide_eq_false (by omega)) ?_
                refine RW.pickC rfl rfl (decide_eq_false (by omega)) rfl ?_
                refine RW.nil (EX.seq ?_)
                -- mq: cond
                refine CW.condF rfl (rfl) ?_
                refine CW.skip (EX.seq (CW.seq (CW.seq (CW.region ?_))))
                refine RW.move rfl rfl ?_
                refine RW.geq rfl rfl rfl ?_
                refine RW.move rfl rfl ?_
                refine RW.guardT rfl rfl (decide_eq_true (by omega)) ?_
                refine RW.move rfl rfl ?_
                refine RW.guardT rfl rfl (decide_eq_true (by omega)) ?_
                refine RW.leq rfl rfl rfl ?_
                refine RW.pickB rfl rfl (decide_eq_true (by omega)) rfl ?_
                refine RW.nil (EX.seq ?_)
                -- mq: cond
                refine CW.condF rfl ((decide_eq_false (by omega))) ?_
                refine CW.skip (EX.seq (CW.seq (CW.region ?_)))
                refine RW.move rfl rfl ?_
                refine RW.geq rfl rfl rfl ?_
                refine RW.move rfl rfl ?_
                refine RW.guardF rfl rfl rfl (decide_eq_false (by omega)) ?_
                refine RW.guardF rfl rfl rfl (decide_eq_false (by omega)) ?_
                refine RW.pickC rfl rfl (decide_eq_false (by omega)) rfl ?_
                refine RW.nil (EX.seq ?_)
                -- mq: cond
                refine CW.condF rfl (rfl) ?_
                refine CW.skip (EX.bkN ?_)
                -- mq: loopend
                have hp1 : palK v 30 90 (fk, fn) = (k1, n1) := by
                  unfold palK; repeat (first | rw [if_pos (by omega)] | rw [if_neg (by omega)] | split)
                  all_goals first | (refine Prod.ext ?_ ?_ <;> dsimp only <;> omega)
                have hp2 : palK v 40 100 (bk, bn) = (k2, n2) := by
                  unfold palK; repeat (first | rw [if_pos (by omega)] | rw [if_neg (by omega)] | split)
                  all_goals first | (refine Prod.ext ?_ ?_ <;> dsimp only <;> omega)
                refine EX.lpN (i + 1, ⟨k1, n1, k2, n2, (FL : Int)⟩) ⟨by dsimp only; omega, ⟨by dsimp only; omega, by dsimp only; omega⟩, by dsimp only; rw [← hturn, turnF_in hi2 (hstep.trans (by rw [hp1, hp2]))]⟩ (by dsimp only; omega) (by repeat (first | exact Sub.nil | refine Sub.cons (by rfl) ?_)) (fun w' hw' => hw')
              · skip
                refine EX.seq (CW.seq (CW.region ?_))
                refine RW.move rfl rfl ?_
                refine RW.fieldB fl25x2 rfl rfl ?_
                refine RW.store1 sc3 rfl rfl (by first | exact Upd.head | exact Upd.tail Upd.head | exact Upd.tail (Upd.tail Upd.head) | exact Upd.tail (Upd.tail (Upd.tail Upd.head)) | exact Upd.tail (Upd.tail (Upd.tail (Upd.tail Upd.head))) | exact Upd.tail (Upd.tail (Upd.tail (Upd.tail (Upd.tail Upd.head)))) | exact Upd.tail (Upd.tail (Upd.tail (Upd.tail (Upd.tail (Upd.tail Upd.head)))))) rfl (by first | exact Nat.le_of_ble_eq_true rfl | simp) ?_
                refine RW.nil (EX.seq (CW.seq (CW.seq (CW.region ?_))))
                refine RW.move rfl rfl ?_
                refine RW.geq rfl rfl rfl ?_
                refine RW.move rfl rfl ?_
                refine RW.guardT rfl rfl (decide_eq_true (by omega)) ?_
                refine RW.move rfl rfl ?_
                refine RW.guardT rfl rfl (decide_eq_true (by omega)) ?_
                refine RW.leq rfl rfl rfl ?_
                refine RW.pickB rfl rfl (decide_eq_true (by omega)) rfl ?_
                refine RW.nil (EX.seq ?_)
                -- mq: cond
                refine CW.condF rfl ((decide_eq_false (by omega))) ?_
                refine CW.skip (EX.seq (CW.seq (CW.seq (CW.region ?_))))
                refine RW.move rfl rfl ?_
                refine RW.geq rfl rfl rfl ?_
                refine RW.move rfl rfl ?_
                refine RW.guardT rfl rfl (decide_eq_true (by omega)) ?_
                refine RW.move rfl rfl ?_
                refine RW.guardT rfl rfl (decide_eq_true (by omega)) ?_
                refine RW.leq rfl rfl rfl ?_
                refine RW.pickB rfl rfl (decide_eq_true (by omega)) rfl ?_
                refine RW.nil (EX.seq ?_)
                -- mq: cond
                refine CW.condT rfl ((decide_eq_true (by omega))) ?_
                refine CW.region ?_
                refine RW.move rfl rfl ?_
                refine RW.sub_ rfl rfl rfl (wrap64 (by omega) (by omega)) ?_
                refine RW.buildS bu23 rfl rfl rfl ?_
                refine RW.fieldB fl25x0 rfl rfl ?_
                refine RW.storeA ag23 rfl rfl (by first | exact Upd.head | exact Upd.tail Upd.head | exact Upd.tail (Upd.tail Upd.head) | exact Upd.tail (Upd.tail (Upd.tail Upd.head)) | exact Upd.tail (Upd.tail (Upd.tail (Upd.tail Upd.head))) | exact Upd.tail (Upd.tail (Upd.tail (Upd.tail (Upd.tail Upd.head)))) | exact Upd.tail (Upd.tail (Upd.tail (Upd.tail (Upd.tail (Upd.tail Upd.head)))))) (by first | rfl | exact Enc.len _ _) (by repeat (first | exact Ones.nil | exact Enc.ones _ _ | refine Ones.cons rfl ?_)) (by first | exact Nat.le_of_ble_eq_true rfl | (simp only [Enc.len]; decide)) ?_
                refine RW.nil (EX.seq (CW.seq (CW.seq (CW.region ?_))))
                refine RW.move rfl rfl ?_
                refine RW.geq rfl rfl rfl ?_
                refine RW.move rfl rfl ?_
                refine RW.guardT rfl rfl (decide_eq_true (by omega)) ?_
                refine RW.move rfl rfl ?_
                refine RW.guardT rfl rfl (decide_eq_true (by omega)) ?_
                refine RW.leq rfl rfl rfl ?_
                refine RW.pickB rfl rfl (decide_eq_true (by omega)) rfl ?_
                refine RW.nil (EX.seq ?_)
                -- mq: cond
                refine CW.condF rfl ((decide_eq_false (by omega))) ?_
                refine CW.skip (EX.seq (CW.seq (CW.region ?_)))
                refine RW.move rfl rfl ?_
                refine RW.geq rfl rfl rfl ?_
                refine RW.move rfl rfl ?_
                refine RW.guardF rfl rfl rfl (decide_eq_false (by omega)) ?_
                refine RW.guardF rfl rfl rfl (decide_eq_false (by omega)) ?_
                refine RW.pickC rfl rfl (decide_eq_false (by omega)) rfl ?_
                refine RW.nil (EX.seq ?_)
                -- mq: cond
                refine CW.condF rfl (rfl) ?_
                refine CW.skip (EX.bkN ?_)
                -- mq: loopend
                have hp1 : palK v 30 90 (fk, fn) = (1, v - 82) := by
                  unfold palK; repeat (first | rw [if_pos (by omega)] | rw [if_neg (by omega)] | split)
                  all_goals first | (refine Prod.ext ?_ ?_ <;> dsimp only <;> omega)
                have hp2 : palK v 40 100 (bk, bn) = (k2, n2) := by
                  unfold palK; repeat (first | rw [if_pos (by omega)] | rw [if_neg (by omega)] | split)
                  all_goals first | (refine Prod.ext ?_ ?_ <;> dsimp only <;> omega)
                refine EX.lpN (i + 1, ⟨1, v - 82, k2, n2, (FL : Int)⟩) ⟨by dsimp only; omega, ⟨by dsimp only; omega, by dsimp only; omega⟩, by dsimp only; rw [← hturn, turnF_in hi2 (hstep.trans (by rw [hp1, hp2]))]⟩ (by dsimp only; omega) (by repeat (first | exact Sub.nil | refine Sub.cons (by rfl) ?_)) (fun w' hw' => hw')
              · skip
                refine EX.seq (CW.seq (CW.region ?_))
                refine RW.move rfl rfl ?_
                refine RW.fieldB fl25x2 rfl rfl ?_
                refine RW.store1 sc3 rfl rfl (by first | exact Upd.head | exact Upd.tail Upd.head | exact Upd.tail (Upd.tail Upd.head) | exact Upd.tail (Upd.tail (Upd.tail Upd.head)) | exact Upd.tail (Upd.tail (Upd.tail (Upd.tail Upd.head))) | exact Upd.tail (Upd.tail (Upd.tail (Upd.tail (Upd.tail Upd.head)))) | exact Upd.tail (Upd.tail (Upd.tail (Upd.tail (Upd.tail (Upd.tail Upd.head)))))) rfl (by first | exact Nat.le_of_ble_eq_true rfl | simp) ?_
                refine RW.nil (EX.seq (CW.seq (CW.seq (CW.region ?_))))
                refine RW.move rfl rfl ?_
                refine RW.geq rfl rfl rfl ?_
                refine RW.move rfl rfl ?_
                refine RW.guardT rfl rfl (decide_eq_true (by omega)) ?_
                refine RW.move rfl rfl ?_
                refine RW.guardT rfl rfl (decide_eq_true (by omega)) ?_
                refine RW.leq rfl rfl rfl ?_
                refine RW.pickB rfl rfl (decide_eq_true (by omega)) rfl ?_
                refine RW.nil (EX.seq ?_)
                -- mq: cond
                refine CW.condF rfl ((decide_eq_false (by omega))) ?_
                refine CW.skip (EX.seq (CW.seq (CW.seq (CW.region ?_))))
                refine RW.move rfl rfl ?_
                refine RW.geq rfl rfl rfl ?_
                refine RW.move rfl rfl ?_
                refine RW.guardT rfl rfl (decide_eq_true (by omega)) ?_
                refine RW.move rfl rfl ?_
                refine RW.guardT rfl rfl (decide_eq_true (by omega)) ?_
                refine RW.leq rfl rfl rfl ?_
                refine RW.pickB rfl rfl (decide_eq_true (by omega)) rfl ?_
                refine RW.nil (EX.seq ?_)
                -- mq: cond
                refine CW.condF rfl ((decide_eq_false (by omega))) ?_
                refine CW.skip (EX.seq (CW.seq (CW.seq (CW.region ?_))))
                refine RW.move rfl rfl ?_
                refine RW.geq rfl rfl rfl ?_
                refine RW.move rfl rfl ?_
                refine RW.guardT rfl rfl (decide_eq_true (by omega)) ?_
                refine RW.move rfl rfl ?_
                refine RW.guardT rfl rfl (decide_eq_true (by omega)) ?_
                refine RW.leq rfl rfl rfl ?_
                refine RW.pickB rfl rfl (decide_eq_true (by omega)) rfl ?_
                refine RW.nil (EX.seq ?_)
                -- mq: cond
                refine CW.condF rfl ((decide_eq_false (by omega))) ?_
                refine CW.skip (EX.seq (CW.seq (CW.region ?_)))
                refine RW.move rfl rfl ?_
                refine RW.geq rfl rfl rfl ?_
                refine RW.move rfl rfl ?_
                refine RW.guardF rfl rfl rfl (decide_eq_false (by omega)) ?_
                refine RW.guardF rfl rfl rfl (decide_eq_false (by omega)) ?_
                refine RW.pickC rfl rfl (decide_eq_false (by omega)) rfl ?_
                refine RW.nil (EX.seq ?_)
                -- mq: cond
                refine CW.condF rfl (rfl) ?_
                refine CW.skip (EX.bkN ?_)
                -- mq: loopend
                have hp1 : palK v 30 90 (fk, fn) = (k1, n1) := by
                  unfold palK; repeat (first | rw [if_pos (by omega)] | rw [if_neg (by omega)] | split)
                  all_goals first | (refine Prod.ext ?_ ?_ <;> dsimp only <;> omega)
                have hp2 : palK v 40 100 (bk, bn) = (k2, n2) := by
                  unfold palK; repeat (first | rw [if_pos (by omega)] | rw [if_neg (by omega)] | split)
                  all_goals first | (refine Prod.ext ?_ ?_ <;> dsimp only <;> omega)
                refine EX.lpN (i + 1, ⟨k1, n1, k2, n2, (FL : Int)⟩) ⟨by dsimp only; omega, ⟨by dsimp only; omega, by dsimp only; omega⟩, by dsimp only; rw [← hturn, turnF_in hi2 (hstep.trans (by rw [hp1, hp2]))]⟩ (by dsimp only; omega) (by repeat (first | exact Sub.nil | refine Sub.cons (by rfl) ?_)) (fun w' hw' => hw')
              · skip
                refine EX.seq (CW.seq (CW.region ?_))
                refine RW.move rfl rfl ?_
                refine RW.fieldB fl25x2 rfl rfl ?_
                refine RW.store1 sc3 rfl rfl (by first | exact Upd.head | exact Upd.tail Upd.head | exact Upd.tail (Upd.tail Upd.head) | exact Upd.tail (Upd.tail (Upd.tail Upd.head)) | exact Upd.tail (Upd.tail (Upd.tail (Upd.tail Upd.head))) | exact Upd.tail (Upd.tail (Upd.tail (Upd.tail (Upd.tail Upd.head)))) | exact Upd.tail (Upd.tail (Upd.tail (Upd.tail (Upd.tail (Upd.tail Upd.head)))))) rfl (by first | exact Nat.le_of_ble_eq_true rfl | simp) ?_
                refine RW.nil (EX.seq (CW.seq (CW.seq (CW.region ?_))))
                refine RW.move rfl rfl ?_
                refine RW.geq rfl rfl rfl ?_
                refine RW.move rfl rfl ?_
                refine RW.guardT rfl rfl (decide_eq_true (by omega)) ?_
                refine RW.move rfl rfl ?_
                refine RW.guardT rfl rfl (decide_eq_true (by omega)) ?_
                refine RW.leq rfl rfl rfl ?_
                refine RW.pickB rfl rfl (decide_eq_true (by omega)) rfl ?_
                refine RW.nil (EX.seq ?_)
                -- mq: cond
                refine CW.condF rfl ((decide_eq_false (by omega))) ?_
                refine CW.skip (EX.seq (CW.seq (CW.seq (CW.region ?_))))
                refine RW.move rfl rfl ?_
                refine RW.geq rfl rfl rfl ?_
                refine RW.move rfl rfl ?_
                refine RW.guardT rfl rfl (decide_eq_true (by omega)) ?_
                refine RW.move rfl rfl ?_
                refine RW.guardT rfl rfl (decide_eq_true (by omega)) ?_
                refine RW.leq rfl rfl rfl ?_
                refine RW.pickB rfl rfl (decide_eq_true (by omega)) rfl ?_
                refine RW.nil (EX.seq ?_)
                -- mq: cond
                refine CW.condF rfl ((decide_eq_false (by omega))) ?_
                refine CW.skip (EX.seq (CW.seq (CW.seq (CW.region ?_))))
                refine RW.move rfl rfl ?_
                refine RW.geq rfl rfl rfl ?_
                refine RW.move rfl rfl ?_
                refine RW.guardT rfl rfl (decide_eq_true (by omega)) ?_
                refine RW.move rfl rfl ?_
                refine RW.guardT rfl rfl (decide_eq_true (by omega)) ?_
                refine RW.leq rfl rfl rfl ?_
                refine RW.pickB rfl rfl (decide_eq_true (by omega)) rfl ?_
                refine RW.nil (EX.seq ?_)
                -- mq: cond
                refine CW.condF rfl ((decide_eq_false (by omega))) ?_
                refine CW.skip (EX.seq (CW.seq (CW.region ?_)))
                refine RW.move rfl rfl ?_
                refine RW.geq rfl rfl rfl ?_
                refine RW.move rfl rfl ?_
                refine RW.guardT rfl rfl (decide_eq_true (by omega)) ?_
                refine RW.move rfl rfl ?_
                refine RW.guardT rfl rfl (decide_eq_true (by omega)) ?_
                refine RW.leq rfl rfl rfl ?_
                refine RW.pickB rfl rfl (decide_eq_true (by omega)) rfl ?_
                refine RW.nil (EX.seq ?_)
                -- mq: cond
                refine CW.condT rfl ((decide_eq_true (by omega))) ?_
                refine CW.region ?_
                refine RW.move rfl rfl ?_
                refine RW.sub_ rfl rfl rfl (wrap64 (by omega) (by omega)) ?_
                refine RW.buildS bu23 rfl rfl rfl ?_
                refine RW.fieldB fl25x1 rfl rfl ?_
                refine RW.storeA ag23 rfl rfl (by first | exact Upd.head | exact Upd.tail Upd.head | exact Upd.tail (Upd.tail Upd.head) | exact Upd.tail (Upd.tail (Upd.tail Upd.head)) | exact Upd.tail (Upd.tail (Upd.tail (Upd.tail Upd.head))) | exact Upd.tail (Upd.tail (Upd.tail (Upd.tail (Upd.tail Upd.head)))) | exact Upd.tail (Upd.tail (Upd.tail (Upd.tail (Upd.tail (Upd.tail Upd.head)))))) (by first | rfl | exact Enc.len _ _) (by repeat (first | exact Ones.nil | exact Enc.ones _ _ | refine Ones.cons rfl ?_)) (by first | exact Nat.le_of_ble_eq_true rfl | (simp only [Enc.len]; decide)) ?_
                refine RW.nil (EX.bkN ?_)
                -- mq: loopend
                have hp1 : palK v 30 90 (fk, fn) = (k1, n1) := by
                  unfold palK; repeat (first | rw [if_pos (by omega)] | rw [if_neg (by omega)] | split)
                  all_goals first | (refine Prod.ext ?_ ?_ <;> dsimp only <;> omega)
                have hp2 : palK v 40 100 (bk, bn) = (1, v - 92) := by
                  unfold palK; repeat (first | rw [if_pos (by omega)] | rw [if_neg (by omega)] | split)
                  all_goals first | (refine Prod.ext ?_ ?_ <;> dsimp only <;> omega)
                refine EX.lpN (i + 1, ⟨k1, n1, 1, v - 92, (FL : Int)⟩) ⟨by dsimp only; omega, ⟨by dsimp only; omega, by dsimp only; omega⟩, by dsimp only; rw [← hturn, turnF_in hi2 (hstep.trans (by rw [hp1, hp2]))]⟩ (by dsimp only; omega) (by repeat (first | exact Sub.nil | refine Sub.cons (by rfl) ?_)) (fun w' hw' => hw')
              · skip
                refine EX.seq (CW.seq (CW.region ?_))
                refine RW.move rfl rfl ?_
                refine RW.fieldB fl25x2 rfl rfl ?_
                refine RW.store1 sc3 rfl rfl (by first | exact Upd.head | exact Upd.tail Upd.head | exact Upd.tail (Upd.tail Upd.head) | exact Upd.tail (Upd.tail (Upd.tail Upd.head)) | exact Upd.tail (Upd.tail (Upd.tail (Upd.tail Upd.head))) | exact Upd.tail (Upd.tail (Upd.tail (Upd.tail (Upd.tail Upd.head)))) | exact Upd.tail (Upd.tail (Upd.tail (Upd.tail (Upd.tail (Upd.tail Upd.head)))))) rfl (by first | exact Nat.le_of_ble_eq_true rfl | simp) ?_
                refine RW.nil (EX.seq (CW.seq (CW.seq (CW.region ?_))))
                refine RW.move rfl rfl ?_
                refine RW.geq rfl rfl rfl ?_
                refine RW.move rfl rfl ?_
                refine RW.guardT rfl rfl (decide_eq_true (by omega)) ?_
                refine RW.move rfl rfl ?_
                refine RW.guardT rfl rfl (decide_eq_true (by omega)) ?_
                refine RW.leq rfl rfl rfl ?_
                refine RW.pickB rfl rfl (decide_eq_true (by omega)) rfl ?_
                refine RW.nil (EX.seq ?_)
                -- mq: cond
                refine CW.condF rfl ((decide_eq_false (by omega))) ?_
                refine CW.skip (EX.seq (CW.seq (CW.seq (CW.region ?_))))
                refine RW.move rfl rfl ?_
                refine RW.geq rfl rfl rfl ?_
                refine RW.move rfl rfl ?_
                refine RW.guardT rfl rfl (decide_eq_true (by omega)) ?_
                refine RW.move rfl rfl ?_
                refine RW.guardT rfl rfl (decide_eq_true (by omega)) ?_
                refine RW.leq rfl rfl rfl ?_
                refine RW.pickB rfl rfl (decide_eq_true (by omega)) rfl ?_
                refine RW.nil (EX.seq ?_)
                -- mq: cond
                refine CW.condF rfl ((decide_eq_false (by omega))) ?_
                refine CW.skip (EX.seq (CW.seq (CW.seq (CW.region ?_))))
                refine RW.move rfl rfl ?_
                refine RW.geq rfl rfl rfl ?_
                refine RW.move rfl rfl ?_
                refine RW.guardT rfl rfl (decide_eq_true (by omega)) ?_
                refine RW.move rfl rfl ?_
                refine RW.guardT rfl rfl (decide_eq_true (by omega)) ?_
                refine RW.leq rfl rfl rfl ?_
                refine RW.pickB rfl rfl (decide_eq_true (by omega)) rfl ?_
                refine RW.nil (EX.seq ?_)
                -- mq: cond
                refine CW.condF rfl ((decide_eq_false (by omega))) ?_
                refine CW.skip (EX.seq (CW.seq (CW.region ?_)))
                refine RW.move rfl rfl ?_
                refine RW.geq rfl rfl rfl ?_
                refine RW.move rfl rfl ?_
                refine RW.guardT rfl rfl (decide_eq_true (by omega)) ?_
                refine RW.move rfl rfl ?_
                refine RW.guardT rfl rfl (decide_eq_true (by omega)) ?_
                refine RW.leq rfl rfl rfl ?_
                refine RW.pickB rfl rfl (decide_eq_true (by omega)) rfl ?_
                refine RW.nil (EX.seq ?_)
                -- mq: cond
                refine CW.condF rfl ((decide_eq_false (by omega))) ?_
                refine CW.skip (EX.bkN ?_)
                -- mq: loopend
                have hp1 : palK v 30 90 (fk, fn) = (k1, n1) := by
                  unfold palK; repeat (first | rw [if_pos (by omega)] | rw [if_neg (by omega)] | split)
                  all_goals first | (refine Prod.ext ?_ ?_ <;> dsimp only <;> omega)
                have hp2 : palK v 40 100 (bk, bn) = (k2, n2) := by
                  unfold palK; repeat (first | rw [if_pos (by omega)] | rw [if_neg (by omega)] | split)
                  all_goals first | (refine Prod.ext ?_ ?_ <;> dsimp only <;> omega)
                refine EX.lpN (i + 1, ⟨k1, n1, k2, n2, (FL : Int)⟩) ⟨by dsimp only; omega, ⟨by dsimp only; omega, by dsimp only; omega⟩, by dsimp only; rw [← hturn, turnF_in hi2 (hstep.trans (by rw [hp1, hp2]))]⟩ (by dsimp only; omega) (by repeat (first | exact Sub.nil | refine Sub.cons (by rfl) ?_)) (fun w' hw' => hw')
    · skip
      refine CW.exit (EX.seqE (EX.lpE (EX.bkE (EX.seq (CW.seq (CW.region ?_))))))
      refine RW.loadBA ag25 rfl rfl (by first | exact Has.head | exact Has.tail Has.head | exact Has.tail (Has.tail Has.head) | exact Has.tail (Has.tail (Has.tail Has.head)) | exact Has.tail (Has.tail (Has.tail (Has.tail Has.head))) | exact Has.tail (Has.tail (Has.tail (Has.tail (Has.tail Has.head)))) | exact Has.tail (Has.tail (Has.tail (Has.tail (Has.tail (Has.tail Has.head)))))) rfl rfl ?_
      refine RW.storeA ag25 rfl rfl (by first | exact Upd.head | exact Upd.tail Upd.head | exact Upd.tail (Upd.tail Upd.head) | exact Upd.tail (Upd.tail (Upd.tail Upd.head)) | exact Upd.tail (Upd.tail (Upd.tail (Upd.tail Upd.head))) | exact Upd.tail (Upd.tail (Upd.tail (Upd.tail (Upd.tail Upd.head)))) | exact Upd.tail (Upd.tail (Upd.tail (Upd.tail (Upd.tail (Upd.tail Upd.head)))))) (by first | rfl | exact Enc.len _ _) (by repeat (first | exact Ones.nil | exact Enc.ones _ _ | refine Ones.cons rfl ?_)) (by first | exact Nat.le_of_ble_eq_true rfl | (simp only [Enc.len]; decide)) ?_
      refine RW.nil (EX.seq (CW.ret ?_))
      refine EX.fin1' Tryd.results14 (RV.cellA ag25 rfl (by first | exact Has.head | exact Has.tail Has.head | exact Has.tail (Has.tail Has.head) | exact Has.tail (Has.tail (Has.tail Has.head)) | exact Has.tail (Has.tail (Has.tail (Has.tail Has.head))) | exact Has.tail (Has.tail (Has.tail (Has.tail (Has.tail Has.head)))) | exact Has.tail (Has.tail (Has.tail (Has.tail (Has.tail (Has.tail Has.head)))))) rfl rfl) (fun wz hw => ?_)
      -- mq: done
      rw [← hturn, turnF_out (by omega)]
      exact ⟨rfl, hw.ext⟩
end Go.Proofs.YtojfodeienchfaaDoor.Mq
