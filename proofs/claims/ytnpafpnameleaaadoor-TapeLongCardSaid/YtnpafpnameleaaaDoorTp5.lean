/- tape: fill (printed by gentp5.py) -/
import Derived.Test.YtnpafpnameleaaaDoorTp4
import Derived.Test.YtnpafpnameleaaaDoorTwo
namespace Go.Proofs.YtnpafpnameleaaaDoor.Mq
open Go Go.RowKit Go.Proofs

theorem getD_at {L : List (List UInt8)} {i : Nat} (h : i < L.length) : L[i]? = some (L.getD i []) := by
  rw [List.getElem?_eq_getElem h, List.getD_eq_getElem?_getD, List.getElem?_eq_getElem h]; rfl
theorem getD_mem {L : List (List UInt8)} {i : Nat} (h : i < L.length) : L.getD i [] ∈ L := by
  rw [List.getD_eq_getElem?_getD, List.getElem?_eq_getElem h]; exact List.getElem_mem h
def fillV (p : StV × Nat) : Value := .tuple #[.agg p.1.cells.toArray, .int .i64 (p.2 : Int)]
theorem fill_len {k n : Nat} {ws : List (List UInt8)} (hn : numsK k = n) {h : Bool} (hh : hasK k = h) (hl : ws.length ≠ n + (if h = true then 1 else 0)) : fillS k ws = (zeroS, 4) := by
  rw [fillS, hn, hh, if_pos hl]
theorem fill_no1 {k : Nat} {ws : List (List UInt8)} (h1 : 1 ≤ numsK k) (hz : numF (ws.getD 0 []) = none) : fillS k ws = (zeroS, 4) := by
  unfold fillS
  rw [if_pos h1, hz]
  by_cases hl : ws.length ≠ numsK k + (if hasK k = true then 1 else 0)
  · rw [if_pos hl]
  · rw [if_neg hl]
theorem fill_no2 {k : Nat} {ws : List (List UInt8)} (h1 : 2 ≤ numsK k) (hz : numF (ws.getD 1 []) = none) : fillS k ws = (zeroS, 4) := by
  unfold fillS
  rw [if_pos h1, hz]
  by_cases hl : ws.length ≠ numsK k + (if hasK k = true then 1 else 0)
  · rw [if_pos hl]
  · rw [if_neg hl]
    cases (if 1 ≤ numsK k then numF (ws.getD 0 []) else some 0) <;> rfl
theorem fill_ok {k n : Nat} {ws : List (List UInt8)} {a b : Int} {h : Bool} (hn : numsK k = n) (hh : hasK k = h) (hl : ws.length = n + (if h = true then 1 else 0)) (ha : (if 1 ≤ n then numF (ws.getD 0 []) else some 0) = some a) (hb : (if 2 ≤ n then numF (ws.getD 1 []) else some 0) = some b) :
    fillS k ws = if h = true then (if (dataF (ws.getD n [])).2 = 0 then (⟨k, a, b, (dataF (ws.getD n [])).1⟩, 0) else (zeroS, (dataF (ws.getD n [])).2)) else (⟨k, a, b, []⟩, 0) := by
  unfold fillS
  rw [hn, hh, if_neg (by simpa using hl), ha, hb]
theorem fill_c (w : World) (hg : Gl w) (hge : Ge w) (k : Nat) (hk : k < 7) (F : Nat → Prop) (A : Option Addr) (m c : Nat) (ws : List (List UInt8)) (hr : Rd EStr w F A m c ws) (hsz : ∀ x ∈ ws, x.length ≤ 1000000) :
    Calls Tryd.prog 27 [.agg #[.int .i64 (k : Int), .int .i64 0, .int .i64 0, .string (bs [])], .agg (kindV k).toArray, .slice A m c].toArray w (fun e w' => e = .returned (fillV (fillS k ws)) ∧ Ext [] w w') := by
  have hm := hr.len
  have hmc := hr.cap
  have hmx := hr.max
  rcases combo k hk with ⟨hn, hh⟩ | ⟨hn, hh⟩ | ⟨hn, hh⟩ | ⟨hn, hh⟩
  · rw [show kindV k = [.string (bs (wordsK.getD k [])), .int .i64 0, .bool true] by rw [kindV, hn, hh]; rfl]
    refine calls (n := 73) Tryd.func27 rfl Tryd.ntmps27 rfl ?_
    refine CW.sub (H' := SH w [] []) ?_ (Sub.refl _) (fun x hx => SH.start' _ _ hx)
    refine CW.seq (CW.region ?_)
    refine RW.boxA rfl rfl (fun g3 hg3 hf3 => ?_)
    refine RW.boxA rfl rfl (fun g4 hg4 hf4 => ?_)
    refine RW.allocA ag23 rfl (fun g6 hg6 hf6 => ?_)
    refine RW.assign rfl rfl ?_
    refine RW.nil (EX.seq (CW.seq ?_))
    -- mq: region
    refine CW.region ?_
    refine RW.fieldB fl47x1 rfl rfl ?_
    refine RW.loadB1 sc3 rfl rfl (by first | exact Has.head | exact Has.tail Has.head | exact Has.tail (Has.tail Has.head) | exact Has.tail (Has.tail (Has.tail Has.head)) | exact Has.tail (Has.tail (Has.tail (Has.tail Has.head))) | exact Has.tail (Has.tail (Has.tail (Has.tail (Has.tail Has.head)))) | exact Has.tail (Has.tail (Has.tail (Has.tail (Has.tail (Has.tail Has.head)))))) rfl ?_
    refine RW.assign rfl rfl ?_
    refine RW.nil (EX.seq (CW.seq (CW.seq (CW.region ?_))))
    refine RW.fieldB fl47x2 rfl rfl ?_
    refine RW.loadB1 sc4 rfl rfl (by first | exact Has.head | exact Has.tail Has.head | exact Has.tail (Has.tail Has.head) | exact Has.tail (Has.tail (Has.tail Has.head)) | exact Has.tail (Has.tail (Has.tail (Has.tail Has.head))) | exact Has.tail (Has.tail (Has.tail (Has.tail (Has.tail Has.head)))) | exact Has.tail (Has.tail (Has.tail (Has.tail (Has.tail (Has.tail Has.head)))))) rfl ?_
    refine RW.nil (EX.seq ?_)
    -- mq: cond
    refine CW.condT rfl (rfl) ?_
    refine CW.region ?_
    refine RW.move rfl rfl ?_
    refine RW.add rfl rfl rfl (wrap64 (by omega) (by omega)) ?_
    refine RW.assign rfl rfl ?_
    refine RW.nil (EX.seq (CW.seq (CW.seq (CW.region ?_))))
    refine RW.move rfl rfl ?_
    refine RW.lenSl Tryd.underlying50 rfl rfl ?_
    refine RW.move rfl rfl ?_
    refine RW.neqI rfl rfl rfl ?_
    refine RW.nil (EX.seq ?_)
    -- mq: cond
    first | refine CW.condD rfl (fun h1 => ?_) (fun h1 => ?_) | refine CW.cond rfl (fun h1 => ?_) (fun h1 => ?_)
    · skip
      refine CW.seq (CW.region ?_)
      refine RW.buildS bu23 rfl rfl rfl ?_
      refine RW.storeA ag23 rfl rfl (by first | exact Upd.head | exact Upd.tail Upd.head | exact Upd.tail (Upd.tail Upd.head) | exact Upd.tail (Upd.tail (Upd.tail Upd.head)) | exact Upd.tail (Upd.tail (Upd.tail (Upd.tail Upd.head))) | exact Upd.tail (Upd.tail (Upd.tail (Upd.tail (Upd.tail Upd.head)))) | exact Upd.tail (Upd.tail (Upd.tail (Upd.tail (Upd.tail (Upd.tail Upd.head)))))) (by first | rfl | exact Enc.len _ _) (by repeat (first | exact Ones.nil | exact Enc.ones _ _ | refine Ones.cons rfl ?_)) (by first | exact Nat.le_of_ble_eq_true rfl | (simp only [Enc.len]; decide)) ?_
      refine RW.assign rfl rfl ?_
      refine RW.nil (EX.seq (CW.ret (EX.seqR ?_)))
      refine EX.fin2' Tryd.results27 (RV.cellA ag23 rfl (by first | exact Has.head | exact Has.tail Has.head | exact Has.tail (Has.tail Has.head) | exact Has.tail (Has.tail (Has.tail Has.head)) | exact Has.tail (Has.tail (Has.tail (Has.tail Has.head))) | exact Has.tail (Has.tail (Has.tail (Has.tail (Has.tail Has.head)))) | exact Has.tail (Has.tail (Has.tail (Has.tail (Has.tail (Has.tail Has.head)))))) rfl rfl) (RV.tmp rfl) (fun wz hw => ?_)
      -- mq: done
      exact ⟨by rw [fill_len hn hh (by show ws.length ≠ 1; omega)]; rfl, hw.ext⟩
    · skip
      have hwl : ws.length = 1 := by omega
      refine CW.skip (EX.seq (CW.seq (CW.seq (CW.region ?_))))
      refine RW.fieldB fl23x1 rfl rfl ?_
      refine RW.fieldB fl23x2 rfl rfl ?_
      refine RW.buildSlc sl78 rfl rfl rfl rfl (fun g28 hg28 hf28 => ?_)
      refine RW.fieldB fl47x1 rfl rfl ?_
      refine RW.loadB1 sc3 rfl rfl (by first | exact Has.head | exact Has.tail Has.head | exact Has.tail (Has.tail Has.head) | exact Has.tail (Has.tail (Has.tail Has.head)) | exact Has.tail (Has.tail (Has.tail (Has.tail Has.head))) | exact Has.tail (Has.tail (Has.tail (Has.tail (Has.tail Has.head)))) | exact Has.tail (Has.tail (Has.tail (Has.tail (Has.tail (Has.tail Has.head)))))) rfl ?_
      refine RW.sliceSl 0 0 sl78 rfl rfl (.inr ⟨rfl, rfl⟩) (.inl ⟨_, _, rfl, rfl, rfl⟩) (by decide) (by decide) ?_
      refine RW.lenSl Tryd.underlying78 rfl rfl ?_
      refine RW.move rfl rfl ?_
      refine RW.nil (EX.seq (CW.block ?_))
      -- mq: loop
      refine CW.loop (ι := Nat × Int × Int) (fun t => [(2, .slice A m c), (3, .pointer (some ⟨g3, 0, none⟩)), (4, .pointer (some ⟨g4, 0, none⟩)), (6, .pointer (some ⟨g6, 0, none⟩)), (31, .slice (some ⟨g28, 0, none⟩) 0 2), (32, .int .i64 0), (33, .int .i64 (t.1 : Int))]) (fun t => SH w [] [blk g28 [.pointer (some ⟨g3, 1, none⟩), .pointer (some ⟨g3, 2, none⟩)] 79, blk g6 [.int .i64 0, .int .i64 0, .int .i64 0, .string (bs [])] 23, blk g4 [.string (bs (wordsK.getD k [])), .int .i64 0, .bool true] 47, blk g3 [.int .i64 (k : Int), .int .i64 t.2.1, .int .i64 t.2.2, .string (bs [])] 23]) (fun t => t.1 ≤ 0 ∧ (if 1 ≤ t.1 then numF (ws.getD 0 []) else some 0) = some t.2.1 ∧ (if 2 ≤ t.1 then numF (ws.getD 1 []) else some 0) = some t.2.2) (fun t => 0 - t.1) ?_ ?_
      · exact fun w' hw' => ⟨(0, 0, 0), ⟨Nat.zero_le _, rfl, rfl⟩, (by repeat (first | exact Sub.nil | refine Sub.cons (by rfl) ?_)), hw'⟩
      · rintro ⟨i, a, b⟩ ⟨hi, hA, hB⟩
        dsimp only at hi hA hB ⊢
        refine CW.seq (CW.region ?_)
        refine RW.lss rfl rfl rfl ?_
        refine RW.nil (EX.seq (CW.seq ?_))
        -- mq: cond
        first | refine CW.condD rfl (fun hlt => ?_) (fun hlt => ?_) | refine CW.cond rfl (fun hlt => ?_) (fun hlt => ?_)
        · skip
          exact absurd hlt (by omega)
        · skip
          obtain rfl : i = 0 := by omega
          have hf := fill_ok hn hh (by show ws.length = 1; omega) hA hB
          rw [hf]
          refine CW.exit (EX.seqE (EX.lpE (EX.bkE (EX.seq (CW.seq (CW.seq (CW.region ?_)))))))
          refine RW.fieldB fl47x2 rfl rfl ?_
          refine RW.loadB1 sc4 rfl rfl (by first | exact Has.head | exact Has.tail Has.head | exact Has.tail (Has.tail Has.head) | exact Has.tail (Has.tail (Has.tail Has.head)) | exact Has.tail (Has.tail (Has.tail (Has.tail Has.head))) | exact Has.tail (Has.tail (Has.tail (Has.tail (Has.tail Has.head)))) | exact Has.tail (Has.tail (Has.tail (Has.tail (Has.tail (Has.tail Has.head)))))) rfl ?_
          refine RW.not_ rfl rfl ?_
          refine RW.nil (EX.seq ?_)
          -- mq: cond
          refine CW.condF rfl (rfl) ?_
          obtain ⟨ad, hA4, hAd, hcl⟩ := hr.at_ (getD_at (i := 0) (L := ws) (by omega))
          have hwz := hsz _ (getD_mem (i := 0) (L := ws) (by omega))
          refine CW.skip (EX.seq (CW.seq (CW.region ?_)))
          refine RW.move rfl rfl ?_
          refine RW.fieldB fl47x1 rfl rfl ?_
          refine RW.loadB1 sc3 rfl rfl (by first | exact Has.head | exact Has.tail Has.head | exact Has.tail (Has.tail Has.head) | exact Has.tail (Has.tail (Has.tail Has.head)) | exact Has.tail (Has.tail (Has.tail (Has.tail Has.head))) | exact Has.tail (Has.tail (Has.tail (Has.tail (Has.tail Has.head)))) | exact Has.tail (Has.tail (Has.tail (Has.tail (Has.tail (Has.tail Has.head)))))) rfl ?_
          refine RW.ixAddr (q := 0) sl50 rfl rfl rfl (by first | rfl | assumption) (by omega) (by omega) ?_
          refine RW.load1 sc9 rfl rfl (fun w' hw' => hw'.base_cell (hcl 0 _ rfl) (by simp)) ?_
          refine RW.call rfl ca39 rfl (fun w' _ => bytes_c w' _ hwz) ?_
          refine RW.move rfl rfl ?_
          refine RW.extract rfl rfl rfl ?_
          refine RW.extract rfl rfl rfl ?_
          refine RW.assign rfl rfl ?_
          refine RW.assign rfl rfl ?_
          refine RW.nil (EX.seq (CW.seq (CW.seq (CW.region ?_))))
          refine RW.move rfl rfl ?_
          refine RW.neqI rfl rfl rfl ?_
          refine RW.nil (EX.seq ?_)
          -- mq: cond
          first | refine CW.condD rfl (fun h4 => ?_) (fun h4 => ?_) | refine CW.cond rfl (fun h4 => ?_) (fun h4 => ?_)
          · skip
            refine CW.seq (CW.region ?_)
            refine RW.buildS bu23 rfl rfl rfl ?_
            refine RW.move rfl rfl ?_
            refine RW.storeA ag23 rfl rfl (by first | exact Upd.head | exact Upd.tail Upd.head | exact Upd.tail (Upd.tail Upd.head) | exact Upd.tail (Upd.tail (Upd.tail Upd.head)) | exact Upd.tail (Upd.tail (Upd.tail (Upd.tail Upd.head))) | exact Upd.tail (Upd.tail (Upd.tail (Upd.tail (Upd.tail Upd.head)))) | exact Upd.tail (Upd.tail (Upd.tail (Upd.tail (Upd.tail (Upd.tail Upd.head)))))) (by first | rfl | exact Enc.len _ _) (by repeat (first | exact Ones.nil | exact Enc.ones _ _ | refine Ones.cons rfl ?_)) (by first | exact Nat.le_of_ble_eq_true rfl | (simp only [Enc.len]; decide)) ?_
            refine RW.assign rfl rfl ?_
            refine RW.nil (EX.seq (CW.ret (EX.seqR ?_)))
            refine EX.fin2' Tryd.results27 (RV.cellA ag23 rfl (by first | exact Has.head | exact Has.tail Has.head | exact Has.tail (Has.tail Has.head) | exact Has.tail (Has.tail (Has.tail Has.head)) | exact Has.tail (Has.tail (Has.tail (Has.tail Has.head))) | exact Has.tail (Has.tail (Has.tail (Has.tail (Has.tail Has.head)))) | exact Has.tail (Has.tail (Has.tail (Has.tail (Has.tail (Has.tail Has.head)))))) rfl rfl) (RV.tmp rfl) (fun wz hw => ?_)
            -- mq: done
            exact ⟨by rw [if_pos rfl, if_neg (by omega)]; rfl, hw.ext⟩
          · skip
            refine CW.skip (EX.seq (CW.seq (CW.region ?_)))
            refine RW.move rfl rfl ?_
            refine RW.fieldB fl23x3 rfl rfl ?_
            refine RW.store1 sc9 rfl rfl (by first | exact Upd.head | exact Upd.tail Upd.head | exact Upd.tail (Upd.tail Upd.head) | exact Upd.tail (Upd.tail (Upd.tail Upd.head)) | exact Upd.tail (Upd.tail (Upd.tail (Upd.tail Upd.head))) | exact Upd.tail (Upd.tail (Upd.tail (Upd.tail (Upd.tail Upd.head)))) | exact Upd.tail (Upd.tail (Upd.tail (Upd.tail (Upd.tail (Upd.tail Upd.head)))))) rfl (by first | exact Nat.le_of_ble_eq_true rfl | simp) ?_
            refine RW.nil (EX.seq (CW.seq (CW.region ?_)))
            refine RW.loadBA ag23 rfl rfl (by first | exact Has.head | exact Has.tail Has.head | exact Has.tail (Has.tail Has.head) | exact Has.tail (Has.tail (Has.tail Has.head)) | exact Has.tail (Has.tail (Has.tail (Has.tail Has.head))) | exact Has.tail (Has.tail (Has.tail (Has.tail (Has.tail Has.head)))) | exact Has.tail (Has.tail (Has.tail (Has.tail (Has.tail (Has.tail Has.head)))))) rfl rfl ?_
            refine RW.storeA ag23 rfl rfl (by first | exact Upd.head | exact Upd.tail Upd.head | exact Upd.tail (Upd.tail Upd.head) | exact Upd.tail (Upd.tail (Upd.tail Upd.head)) | exact Upd.tail (Upd.tail (Upd.tail (Upd.tail Upd.head))) | exact Upd.tail (Upd.tail (Upd.tail (Upd.tail (Upd.tail Upd.head)))) | exact Upd.tail (Upd.tail (Upd.tail (Upd.tail (Upd.tail (Upd.tail Upd.head)))))) (by first | rfl | exact Enc.len _ _) (by repeat (first | exact Ones.nil | exact Enc.ones _ _ | refine Ones.cons rfl ?_)) (by first | exact Nat.le_of_ble_eq_true rfl | (simp only [Enc.len]; decide)) ?_
            refine RW.assign rfl rfl ?_
            refine RW.nil (EX.seq (CW.ret ?_))
            refine EX.fin2' Tryd.results27 (RV.cellA ag23 rfl (by first | exact Has.head | exact Has.tail Has.head | exact Has.tail (Has.tail Has.head) | exact Has.tail (Has.tail (Has.tail Has.head)) | exact Has.tail (Has.tail (Has.tail (Has.tail Has.head))) | exact Has.tail (Has.tail (Has.tail (Has.tail (Has.tail Has.head)))) | exact Has.tail (Has.tail (Has.tail (Has.tail (Has.tail (Has.tail Has.head)))))) rfl rfl) (RV.tmp rfl) (fun wz hw => ?_)
            -- mq: done
            exact ⟨by rw [if_pos rfl, if_pos (by omega)]; rfl, hw.ext⟩
  · rw [show kindV k = [.string (bs (wordsK.getD k [])), .int .i64 2, .bool false] by rw [kindV, hn, hh]; rfl]
    refine calls (n := 73) Tryd.func27 rfl Tryd.ntmps27 rfl ?_
    refine CW.sub (H' := SH w [] []) ?_ (Sub.refl _) (fun x hx => SH.start' _ _ hx)
    refine CW.seq (CW.region ?_)
    refine RW.boxA rfl rfl (fun g3 hg3 hf3 => ?_)
    refine RW.boxA rfl rfl (fun g4 hg4 hf4 => ?_)
    refine RW.allocA ag23 rfl (fun g6 hg6 hf6 => ?_)
    refine RW.assign rfl rfl ?_
    refine RW.nil (EX.seq (CW.seq ?_))
    -- mq: region
    refine CW.region ?_
    refine RW.fieldB fl47x1 rfl rfl ?_
    refine RW.loadB1 sc3 rfl rfl (by first | exact Has.head | exact Has.tail Has.head | exact Has.tail (Has.tail Has.head) | exact Has.tail (Has.tail (Has.tail Has.head)) | exact Has.tail (Has.tail (Has.tail (Has.tail Has.head))) | exact Has.tail (Has.tail (Has.tail (Has.tail (Has.tail Has.head)))) | exact Has.tail (Has.tail (Has.tail (Has.tail (Has.tail (Has.tail Has.head)))))) rfl ?_
    refine RW.assign rfl rfl ?_
    refine RW.nil (EX.seq (CW.seq (CW.seq (CW.region ?_))))
    refine RW.fieldB fl47x2 rfl rfl ?_
    refine RW.loadB1 sc4 rfl rfl (by first | exact Has.head | exact Has.tail Has.head | exact Has.tail (Has.tail Has.head) | exact Has.tail (Has.tail (Has.tail Has.head)) | exact Has.tail (Has.tail (Has.tail (Has.tail Has.head))) | exact Has.tail (Has.tail (Has.tail (Has.tail (Has.tail Has.head)))) | exact Has.tail (Has.tail (Has.tail (Has.tail (Has.tail (Has.tail Has.head)))))) rfl ?_
    refine RW.nil (EX.seq ?_)
    -- mq: cond
    refine CW.condF rfl (rfl) ?_
    refine CW.skip (EX.seq (CW.seq (CW.seq (CW.region ?_))))
    refine RW.move rfl rfl ?_
    refine RW.lenSl Tryd.underlying50 rfl rfl ?_
    refine RW.move rfl rfl ?_
    refine RW.neqI rfl rfl rfl ?_
    refine RW.nil (EX.seq ?_)
    -- mq: cond
    first | refine CW.condD rfl (fun h1 => ?_) (fun h1 => ?_) | refine CW.cond rfl (fun h1 => ?_) (fun h1 => ?_)
    · skip
      refine CW.seq (CW.region ?_)
      refine RW.buildS bu23 rfl rfl rfl ?_
      refine RW.storeA ag23 rfl rfl (by first | exact Upd.head | exact Upd.tail Upd.head | exact Upd.tail (Upd.tail Upd.head) | exact Upd.tail (Upd.tail (Upd.tail Upd.head)) | exact Upd.tail (Upd.tail (Upd.tail (Upd.tail Upd.head))) | exact Upd.tail (Upd.tail (Upd.tail (Upd.tail (Upd.tail Upd.head)))) | exact Upd.tail (Upd.tail (Upd.tail (Upd.tail (Upd.tail (Upd.tail Upd.head)))))) (by first | rfl | exact Enc.len _ _) (by repeat (first | exact Ones.nil | exact Enc.ones _ _ | refine Ones.cons rfl ?_)) (by first | exact Nat.le_of_ble_eq_true rfl | (simp only [Enc.len]; decide)) ?_
      refine RW.assign rfl rfl ?_
      refine RW.nil (EX.seq (CW.ret (EX.seqR ?_)))
      refine EX.fin2' Tryd.results27 (RV.cellA ag23 rfl (by first | exact Has.head | exact Has.tail Has.head | exact Has.tail (Has.tail Has.head) | exact Has.tail (Has.tail (Has.tail Has.head)) | exact Has.tail (Has.tail (Has.tail (Has.tail Has.head))) | exact Has.tail (Has.tail (Has.tail (Has.tail (Has.tail Has.head)))) | exact Has.tail (Has.tail (Has.tail (Has.tail (Has.tail (Has.tail Has.head)))))) rfl rfl) (RV.tmp rfl) (fun wz hw => ?_)
      -- mq: done
      exact ⟨by rw [fill_len hn hh (by show ws.length ≠ 2; omega)]; rfl, hw.ext⟩
    · skip
      have hwl : ws.length = 2 := by omega
      refine CW.skip (EX.seq (CW.seq (CW.seq (CW.region ?_))))
      refine RW.fieldB fl23x1 rfl rfl ?_
      refine RW.fieldB fl23x2 rfl rfl ?_
      refine RW.buildSlc sl78 rfl rfl rfl rfl (fun g28 hg28 hf28 => ?_)
      refine RW.fieldB fl47x1 rfl rfl ?_
      refine RW.loadB1 sc3 rfl rfl (by first | exact Has.head | exact Has.tail Has.head | exact Has.tail (Has.tail Has.head) | exact Has.tail (Has.tail (Has.tail Has.head)) | exact Has.tail (Has.tail (Has.tail (Has.tail Has.head))) | exact Has.tail (Has.tail (Has.tail (Has.tail (Has.tail Has.head)))) | exact Has.tail (Has.tail (Has.tail (Has.tail (Has.tail (Has.tail Has.head)))))) rfl ?_
      refine RW.sliceSl 0 2 sl78 rfl rfl (.inr ⟨rfl, rfl⟩) (.inl ⟨_, _, rfl, rfl, rfl⟩) (by decide) (by decide) ?_
      refine RW.lenSl Tryd.underlying78 rfl rfl ?_
      refine RW.move rfl rfl ?_
      refine RW.nil (EX.seq (CW.block ?_))
      -- mq: loop
      refine CW.loop (ι := Nat × Int × Int) (fun t => [(2, .slice A m c), (3, .pointer (some ⟨g3, 0, none⟩)), (4, .pointer (some ⟨g4, 0, none⟩)), (6, .pointer (some ⟨g6, 0, none⟩)), (31, .slice (some ⟨g28, 0, none⟩) 2 2), (32, .int .i64 2), (33, .int .i64 (t.1 : Int))]) (fun t => SH w [] [blk g28 [.pointer (some ⟨g3, 1, none⟩), .pointer (some ⟨g3, 2, none⟩)] 79, blk g6 [.int .i64 0, .int .i64 0, .int .i64 0, .string (bs [])] 23, blk g4 [.string (bs (wordsK.getD k [])), .int .i64 2, .bool false] 47, blk g3 [.int .i64 (k : Int), .int .i64 t.2.1, .int .i64 t.2.2, .string (bs [])] 23]) (fun t => t.1 ≤ 2 ∧ (if 1 ≤ t.1 then numF (ws.getD 0 []) else some 0) = some t.2.1 ∧ (if 2 ≤ t.1 then numF (ws.getD 1 []) else some 0) = some t.2.2) (fun t => 2 - t.1) ?_ ?_
      · exact fun w' hw' => ⟨(0, 0, 0), ⟨Nat.zero_le _, rfl, rfl⟩, (by repeat (first | exact Sub.nil | refine Sub.cons (by rfl) ?_)), hw'⟩
      · rintro ⟨i, a, b⟩ ⟨hi, hA, hB⟩
        dsimp only at hi hA hB ⊢
        refine CW.seq (CW.region ?_)
        refine RW.lss rfl rfl rfl ?_
        refine RW.nil (EX.seq (CW.seq ?_))
        -- mq: cond
        first | refine CW.condD rfl (fun hlt => ?_) (fun hlt => ?_) | refine CW.cond rfl (fun hlt => ?_) (fun hlt => ?_)
        · skip
          obtain rfl | rfl : i = 0 ∨ i = 1 := by omega
          · skip
            obtain ⟨ad, hA4, hAd, hcl⟩ := hr.at_ (getD_at (i := 0) (L := ws) (by omega))
            have hwz := hsz _ (getD_mem (i := 0) (L := ws) (by omega))
            refine CW.skip (EX.seq (CW.seq (CW.block (CW.seq (CW.region ?_)))))
            refine RW.move rfl rfl ?_
            refine RW.ixAddr (q := 0) sl78 rfl rfl rfl (by first | rfl | assumption) (by omega) (by omega) ?_
            refine RW.load1 sc79 rfl rfl (fun w' hw' => by rw [Addr.add_lit]; exact hw'.blk_cell (o := 0) Has.head rfl) ?_
            refine RW.assign rfl rfl ?_
            refine RW.assign rfl rfl ?_
            refine RW.nil (EX.seq (CW.seq ?_))
            -- mq: region
            refine CW.region ?_
            refine RW.move rfl rfl ?_
            refine RW.move rfl rfl ?_
            refine RW.ixAddr (q := 0) sl50 rfl rfl rfl (by first | rfl | assumption) (by omega) (by omega) ?_
            refine RW.load1 sc9 rfl rfl (fun w' hw' => hw'.base_cell (hcl 0 _ rfl) (by simp)) ?_
            -- mq: at
            cases hz : numF (ws.getD 0 []) with
            | none =>
              refine RW.callA (R := fun _ v _ => NoNum v) rfl ca38 rfl (fun w' hw' => numberNo_c w' (hg.ext hw'.ext) (hge.ext hw'.ext) _ hwz hz) (fun w2 w3 v hw2 he23 hw3 hlt3 hv => ?_)
              obtain ⟨y, rfl⟩ := hv
              have hx13 : Ext [] w w3 := hw2.ext.trans0 he23
              have hcv := hw2.cov
              refine RW.move rfl rfl ?_
              refine RW.extract rfl rfl rfl ?_
              refine RW.extract rfl rfl rfl ?_
              refine RW.assign rfl rfl ?_
              refine RW.assign rfl rfl ?_
              refine RW.nil (EX.seq (CW.seq (CW.seq (CW.region ?_))))
              refine RW.move rfl rfl ?_
              refine RW.not_ rfl rfl ?_
              refine RW.nil (EX.seq ?_)
              -- mq: cond
              refine CW.condT rfl (rfl) ?_
              refine CW.seq (CW.region ?_)
              refine RW.buildS bu23 rfl rfl rfl ?_
              refine RW.storeA ag23 rfl rfl (by first | exact Upd.head | exact Upd.tail Upd.head | exact Upd.tail (Upd.tail Upd.head) | exact Upd.tail (Upd.tail (Upd.tail Upd.head)) | exact Upd.tail (Upd.tail (Upd.tail (Upd.tail Upd.head))) | exact Upd.tail (Upd.tail (Upd.tail (Upd.tail (Upd.tail Upd.head)))) | exact Upd.tail (Upd.tail (Upd.tail (Upd.tail (Upd.tail (Upd.tail Upd.head)))))) (by first | rfl | exact Enc.len _ _) (by repeat (first | exact Ones.nil | exact Enc.ones _ _ | refine Ones.cons rfl ?_)) (by first | exact Nat.le_of_ble_eq_true rfl | (simp only [Enc.len]; decide)) ?_
              refine RW.assign rfl rfl ?_
              refine RW.nil (EX.seq (CW.ret (EX.seqR (EX.bkR (EX.seqR (EX.lpR (EX.bkR (EX.seqR ?_))))))))
              refine EX.fin2' Tryd.results27 (RV.cellA ag23 rfl (by first | exact Has.head | exact Has.tail Has.head | exact Has.tail (Has.tail Has.head) | exact Has.tail (Has.tail (Has.tail Has.head)) | exact Has.tail (Has.tail (Has.tail (Has.tail Has.head))) | exact Has.tail (Has.tail (Has.tail (Has.tail (Has.tail Has.head)))) | exact Has.tail (Has.tail (Has.tail (Has.tail (Has.tail (Has.tail Has.head)))))) rfl rfl) (RV.tmp rfl) (fun wz hw => ?_)
              -- mq: done
              exact ⟨by rw [fill_no1 (by omega) hz]; rfl, (hw.unbase hx13 hcv).ext⟩
            | some y =>
              refine RW.call rfl ca38 rfl (fun w' hw' => numberOk_c w' (hg.ext hw'.ext) _ y hwz hz) ?_
              refine RW.move rfl rfl ?_
              refine RW.extract rfl rfl rfl ?_
              refine RW.extract rfl rfl rfl ?_
              refine RW.assign rfl rfl ?_
              refine RW.assign rfl rfl ?_
              refine RW.nil (EX.seq (CW.seq (CW.seq (CW.region ?_))))
              refine RW.move rfl rfl ?_
              refine RW.not_ rfl rfl ?_
              refine RW.nil (EX.seq ?_)
              -- mq: cond
              refine CW.condF rfl (rfl) ?_
              refine CW.skip (EX.seq (CW.region ?_))
              refine RW.move rfl rfl ?_
              refine RW.move rfl rfl ?_
              refine RW.nilChk rfl rfl ?_
              refine RW.store1 sc3 rfl rfl (by first | exact Upd.head | exact Upd.tail Upd.head | exact Upd.tail (Upd.tail Upd.head) | exact Upd.tail (Upd.tail (Upd.tail Upd.head)) | exact Upd.tail (Upd.tail (Upd.tail (Upd.tail Upd.head))) | exact Upd.tail (Upd.tail (Upd.tail (Upd.tail (Upd.tail Upd.head)))) | exact Upd.tail (Upd.tail (Upd.tail (Upd.tail (Upd.tail (Upd.tail Upd.head)))))) rfl (by first | exact Nat.le_of_ble_eq_true rfl | simp) ?_
              refine RW.nil (EX.bkN (EX.seq (CW.region ?_)))
              refine RW.add rfl rfl rfl (wrap64 (by omega) (by omega)) ?_
              refine RW.move rfl rfl ?_
              refine RW.nil ?_
              -- mq: loopend
              have hb0 : b = 0 := by simpa using hB.symm
              have ha0 : a = 0 := by simpa using hA.symm
              subst hb0 ha0
              exact EX.lpN (1, y, 0) ⟨by dsimp only; omega, rfl, rfl⟩ (by dsimp only; omega) (by repeat (first | exact Sub.nil | refine Sub.cons (by rfl) ?_)) (fun w' hw' => hw')
          · skip
            obtain ⟨ad, hA4, hAd, hcl⟩ := hr.at_ (getD_at (i := 1) (L := ws) (by omega))
            have hwz := hsz _ (getD_mem (i := 1) (L := ws) (by omega))
            refine CW.skip (EX.seq (CW.seq (CW.block (CW.seq (CW.region ?_)))))
            refine RW.move rfl rfl ?_
            refine RW.ixAddr (q := 1) sl78 rfl rfl rfl (by first | rfl | assumption) (by omega) (by omega) ?_
            refine RW.load1 sc79 rfl rfl (fun w' hw' => by rw [Addr.add_lit]; exact hw'.blk_cell (o := 1) Has.head rfl) ?_
            refine RW.assign rfl rfl ?_
            refine RW.assign rfl rfl ?_
            refine RW.nil (EX.seq (CW.seq ?_))
            -- mq: region
            refine CW.region ?_
            refine RW.move rfl rfl ?_
            refine RW.move rfl rfl ?_
            refine RW.ixAddr (q := 1) sl50 rfl rfl rfl (by first | rfl | assumption) (by omega) (by omega) ?_
            refine RW.load1 sc9 rfl rfl (fun w' hw' => hw'.base_cell (hcl 0 _ rfl) (by simp)) ?_
            -- mq: at
            cases hz : numF (ws.getD 1 []) with
            | none =>
              refine RW.callA (R := fun _ v _ => NoNum v) rfl ca38 rfl (fun w' hw' => numberNo_c w' (hg.ext hw'.ext) (hge.ext hw'.ext) _ hwz hz) (fun w2 w3 v hw2 he23 hw3 hlt3 hv => ?_)
              obtain ⟨y, rfl⟩ := hv
              have hx13 : Ext [] w w3 := hw2.ext.trans0 he23
              have hcv := hw2.cov
              refine RW.move rfl rfl ?_
              refine RW.extract rfl rfl rfl ?_
              refine RW.extract rfl rfl rfl ?_
              refine RW.assign rfl rfl ?_
              refine RW.assign rfl rfl ?_
              refine RW.nil (EX.seq (CW.seq (CW.seq (CW.region ?_))))
              refine RW.move rfl rfl ?_
              refine RW.not_ rfl rfl ?_
              refine RW.nil (EX.seq ?_)
              -- mq: cond
              refine CW.condT rfl (rfl) ?_
              refine CW.seq (CW.region ?_)
              refine RW.buildS bu23 rfl rfl rfl ?_
              refine RW.storeA ag23 rfl rfl (by first | exact Upd.head | exact Upd.tail Upd.head | exact Upd.tail (Upd.tail Upd.head) | exact Upd.tail (Upd.tail (Upd.tail Upd.head)) | exact Upd.tail (Upd.tail (Upd.tail (Upd.tail Upd.head))) | exact Upd.tail (Upd.tail (Upd.tail (Upd.tail (Upd.tail Upd.head)))) | exact Upd.tail (Upd.tail (Upd.tail (Upd.tail (Upd.tail (Upd.tail Upd.head)))))) (by first | rfl | exact Enc.len _ _) (by repeat (first | exact Ones.nil | exact Enc.ones _ _ | refine Ones.cons rfl ?_)) (by first | exact Nat.le_of_ble_eq_true rfl | (simp only [Enc.len]; decide)) ?_
              refine RW.assign rfl rfl ?_
              refine RW.nil (EX.seq (CW.ret (EX.seqR (EX.bkR (EX.seqR (EX.lpR (EX.bkR (EX.seqR ?_))))))))
              refine EX.fin2' Tryd.results27 (RV.cellA ag23 rfl (by first | exact Has.head | exact Has.tail Has.head | exact Has.tail (Has.tail Has.head) | exact Has.tail (Has.tail (Has.tail Has.head)) | exact Has.tail (Has.tail (Has.tail (Has.tail Has.head))) | exact Has.tail (Has.tail (Has.tail (Has.tail (Has.tail Has.head)))) | exact Has.tail (Has.tail (Has.tail (Has.tail (Has.tail (Has.tail Has.head)))))) rfl rfl) (RV.tmp rfl) (fun wz hw => ?_)
              -- mq: done
              exact ⟨by rw [fill_no2 (by omega) hz]; rfl, (hw.unbase hx13 hcv).ext⟩
            | some y =>
              refine RW.call rfl ca38 rfl (fun w' hw' => numberOk_c w' (hg.ext hw'.ext) _ y hwz hz) ?_
              refine RW.move rfl rfl ?_
              refine RW.extract rfl rfl rfl ?_
              refine RW.extract rfl rfl rfl ?_
              refine RW.assign rfl rfl ?_
              refine RW.assign rfl rfl ?_
              refine RW.nil (EX.seq (CW.seq (CW.seq (CW.region ?_))))
              refine RW.move rfl rfl ?_
              refine RW.not_ rfl rfl ?_
              refine RW.nil (EX.seq ?_)
              -- mq: cond
              refine CW.condF rfl (rfl) ?_
              refine CW.skip (EX.seq (CW.region ?_))
              refine RW.move rfl rfl ?_
              refine RW.move rfl rfl ?_
              refine RW.nilChk rfl rfl ?_
              refine RW.store1 sc3 rfl rfl (by first | exact Upd.head | exact Upd.tail Upd.head | exact Upd.tail (Upd.tail Upd.head) | exact Upd.tail (Upd.tail (Upd.tail Upd.head)) | exact Upd.tail (Upd.tail (Upd.tail (Upd.tail Upd.head))) | exact Upd.tail (Upd.tail (Upd.tail (Upd.tail (Upd.tail Upd.head)))) | exact Upd.tail (Upd.tail (Upd.tail (Upd.tail (Upd.tail (Upd.tail Upd.head)))))) rfl (by first | exact Nat.le_of_ble_eq_true rfl | simp) ?_
              refine RW.nil (EX.bkN (EX.seq (CW.region ?_)))
              refine RW.add rfl rfl rfl (wrap64 (by omega) (by omega)) ?_
              refine RW.move rfl rfl ?_
              refine RW.nil ?_
              -- mq: loopend
              have hb0 : b = 0 := by simpa using hB.symm
              subst hb0
              exact EX.lpN (2, a, y) ⟨by dsimp only; omega, hA, rfl⟩ (by dsimp only; omega) (by repeat (first | exact Sub.nil | refine Sub.cons (by rfl) ?_)) (fun w' hw' => hw')
        · skip
          obtain rfl : i = 2 := by omega
          have hf := fill_ok hn hh (by show ws.length = 2; omega) hA hB
          rw [hf]
          refine CW.exit (EX.seqE (EX.lpE (EX.bkE (EX.seq (CW.seq (CW.seq (CW.region ?_)))))))
          refine RW.fieldB fl47x2 rfl rfl ?_
          refine RW.loadB1 sc4 rfl rfl (by first | exact Has.head | exact Has.tail Has.head | exact Has.tail (Has.tail Has.head) | exact Has.tail (Has.tail (Has.tail Has.head)) | exact Has.tail (Has.tail (Has.tail (Has.tail Has.head))) | exact Has.tail (Has.tail (Has.tail (Has.tail (Has.tail Has.head)))) | exact Has.tail (Has.tail (Has.tail (Has.tail (Has.tail (Has.tail Has.head)))))) rfl ?_
          refine RW.not_ rfl rfl ?_
          refine RW.nil (EX.seq ?_)
          -- mq: cond
          refine CW.condT rfl (rfl) ?_
          refine CW.seq (CW.region ?_)
          refine RW.loadBA ag23 rfl rfl (by first | exact Has.head | exact Has.tail Has.head | exact Has.tail (Has.tail Has.head) | exact Has.tail (Has.tail (Has.tail Has.head)) | exact Has.tail (Has.tail (Has.tail (Has.tail Has.head))) | exact Has.tail (Has.tail (Has.tail (Has.tail (Has.tail Has.head)))) | exact Has.tail (Has.tail (Has.tail (Has.tail (Has.tail (Has.tail Has.head)))))) rfl rfl ?_
          refine RW.storeA ag23 rfl rfl (by first | exact Upd.head | exact Upd.tail Upd.head | exact Upd.tail (Upd.tail Upd.head) | exact Upd.tail (Upd.tail (Upd.tail Upd.head)) | exact Upd.tail (Upd.tail (Upd.tail (Upd.tail Upd.head))) | exact Upd.tail (Upd.tail (Upd.tail (Upd.tail (Upd.tail Upd.head)))) | exact Upd.tail (Upd.tail (Upd.tail (Upd.tail (Upd.tail (Upd.tail Upd.head)))))) (by first | rfl | exact Enc.len _ _) (by repeat (first | exact Ones.nil | exact Enc.ones _ _ | refine Ones.cons rfl ?_)) (by first | exact Nat.le_of_ble_eq_true rfl | (simp only [Enc.len]; decide)) ?_
          refine RW.assign rfl rfl ?_
          refine RW.nil (EX.seq (CW.ret (EX.seqR ?_)))
          refine EX.fin2' Tryd.results27 (RV.cellA ag23 rfl (by first | exact Has.head | exact Has.tail Has.head | exact Has.tail (Has.tail Has.head) | exact Has.tail (Has.tail (Has.tail Has.head)) | exact Has.tail (Has.tail (Has.tail (Has.tail Has.head))) | exact Has.tail (Has.tail (Has.tail (Has.tail (Has.tail Has.head)))) | exact Has.tail (Has.tail (Has.tail (Has.tail (Has.tail (Has.tail Has.head)))))) rfl rfl) (RV.tmp rfl) (fun wz hw => ?_)
          -- mq: done
          exact ⟨rfl, hw.ext⟩
  · rw [show kindV k = [.string (bs (wordsK.getD k [])), .int .i64 1, .bool false] by rw [kindV, hn, hh]; rfl]
    refine calls (n := 73) Tryd.func27 rfl Tryd.ntmps27 rfl ?_
    refine CW.sub (H' := SH w [] []) ?_ (Sub.refl _) (fun x hx => SH.start' _ _ hx)
    refine CW.seq (CW.region ?_)
    refine RW.boxA rfl rfl (fun g3 hg3 hf3 => ?_)
    refine RW.boxA rfl rfl (fun g4 hg4 hf4 => ?_)
    refine RW.allocA ag23 rfl (fun g6 hg6 hf6 => ?_)
    refine RW.assign rfl rfl ?_
    refine RW.nil (EX.seq (CW.seq ?_))
    -- mq: region
    refine CW.region ?_
    refine RW.fieldB fl47x1 rfl rfl ?_
    refine RW.loadB1 sc3 rfl rfl (by first | exact Has.head | exact Has.tail Has.head | exact Has.tail (Has.tail Has.head) | exact Has.tail (Has.tail (Has.tail Has.head)) | exact Has.tail (Has.tail (Has.tail (Has.tail Has.head))) | exact Has.tail (Has.tail (Has.tail (Has.tail (Has.tail Has.head)))) | exact Has.tail (Has.tail (Has.tail (Has.tail (Has.tail (Has.tail Has.head)))))) rfl ?_
    refine RW.assign rfl rfl ?_
    refine RW.nil (EX.seq (CW.seq (CW.seq (CW.region ?_))))
    refine RW.fieldB fl47x2 rfl rfl ?_
    refine RW.loadB1 sc4 rfl rfl (by first | exact Has.head | exact Has.tail Has.head | exact Has.tail (Has.tail Has.head) | exact Has.tail (Has.tail (Has.tail Has.head)) | exact Has.tail (Has.tail (Has.tail (Has.tail Has.head))) | exact Has.tail (Has.tail (Has.tail (Has.tail (Has.tail Has.head)))) | exact Has.tail (Has.tail (Has.tail (Has.tail (Has.tail (Has.tail Has.head)))))) rfl ?_
    refine RW.nil (EX.seq ?_)
    -- mq: cond
    refine CW.condF rfl (rfl) ?_
    refine CW.skip (EX.seq (CW.seq (CW.seq (CW.region ?_))))
    refine RW.move rfl rfl ?_
    refine RW.lenSl Tryd.underlying50 rfl rfl ?_
    refine RW.move rfl rfl ?_
    refine RW.neqI rfl rfl rfl ?_
    refine RW.nil (EX.seq ?_)
    -- mq: cond
    first | refine CW.condD rfl (fun h1 => ?_) (fun h1 => ?_) | refine CW.cond rfl (fun h1 => ?_) (fun h1 => ?_)
    · skip
      refine CW.seq (CW.region ?_)
      refine RW.buildS bu23 rfl rfl rfl ?_
      refine RW.storeA ag23 rfl rfl (by first | exact Upd.head | exact Upd.tail Upd.head | exact Upd.tail (Upd.tail Upd.head) | exact Upd.tail (Upd.tail (Upd.tail Upd.head)) | exact Upd.tail (Upd.tail (Upd.tail (Upd.tail Upd.head))) | exact Upd.tail (Upd.tail (Upd.tail (Upd.tail (Upd.tail Upd.head)))) | exact Upd.tail (Upd.tail (Upd.tail (Upd.tail (Upd.tail (Upd.tail Upd.head)))))) (by first | rfl | exact Enc.len _ _) (by repeat (first | exact Ones.nil | exact Enc.ones _ _ | refine Ones.cons rfl ?_)) (by first | exact Nat.le_of_ble_eq_true rfl | (simp only [Enc.len]; decide)) ?_
      refine RW.assign rfl rfl ?_
      refine RW.nil (EX.seq (CW.ret (EX.seqR ?_)))
      refine EX.fin2' Tryd.results27 (RV.cellA ag23 rfl (by first | exact Has.head | exact Has.tail Has.head | exact Has.tail (Has.tail Has.head) | exact Has.tail (Has.tail (Has.tail Has.head)) | exact Has.tail (Has.tail (Has.tail (Has.tail Has.head))) | exact Has.tail (Has.tail (Has.tail (Has.tail (Has.tail Has.head)))) | exact Has.tail (Has.tail (Has.tail (Has.tail (Has.tail (Has.tail Has.head)))))) rfl rfl) (RV.tmp rfl) (fun wz hw => ?_)
      -- mq: done
      exact ⟨by rw [fill_len hn hh (by show ws.length ≠ 1; omega)]; rfl, hw.ext⟩
    · skip
      have hwl : ws.length = 1 := by omega
      refine CW.skip (EX.seq (CW.seq (CW.seq (CW.region ?_))))
      refine RW.fieldB fl23x1 rfl rfl ?_
      refine RW.fieldB fl23x2 rfl rfl ?_
      refine RW.buildSlc sl78 rfl rfl rfl rfl (fun g28 hg28 hf28 => ?_)
      refine RW.fieldB fl47x1 rfl rfl ?_
      refine RW.loadB1 sc3 rfl rfl (by first | exact Has.head | exact Has.tail Has.head | exact Has.tail (Has.tail Has.head) | exact Has.tail (Has.tail (Has.tail Has.head)) | exact Has.tail (Has.tail (Has.tail (Has.tail Has.head))) | exact Has.tail (Has.tail (Has.tail (Has.tail (Has.tail Has.head)))) | exact Has.tail (Has.tail (Has.tail (Has.tail (Has.tail (Has.tail Has.head)))))) rfl ?_
      refine RW.sliceSl 0 1 sl78 rfl rfl (.inr ⟨rfl, rfl⟩) (.inl ⟨_, _, rfl, rfl, rfl⟩) (by decide) (by decide) ?_
      refine RW.lenSl Tryd.underlying78 rfl rfl ?_
      refine RW.move rfl rfl ?_
      refine RW.nil (EX.seq (CW.block ?_))
      -- mq: loop
      refine CW.loop (ι := Nat × Int × Int) (fun t => [(2, .slice A m c), (3, .pointer (some ⟨g3, 0, none⟩)), (4, .pointer (some ⟨g4, 0, none⟩)), (6, .pointer (some ⟨g6, 0, none⟩)), (31, .slice (some ⟨g28, 0, none⟩) 1 2), (32, .int .i64 1), (33, .int .i64 (t.1 : Int))]) (fun t => SH w [] [blk g28 [.pointer (some ⟨g3, 1, none⟩), .pointer (some ⟨g3, 2, none⟩)] 79, blk g6 [.int .i64 0, .int .i64 0, .int .i64 0, .string (bs [])] 23, blk g4 [.string (bs (wordsK.getD k [])), .int .i64 1, .bool false] 47, blk g3 [.int .i64 (k : Int), .int .i64 t.2.1, .int .i64 t.2.2, .string (bs [])] 23]) (fun t => t.1 ≤ 1 ∧ (if 1 ≤ t.1 then numF (ws.getD 0 []) else some 0) = some t.2.1 ∧ (if 2 ≤ t.1 then numF (ws.getD 1 []) else some 0) = some t.2.2) (fun t => 1 - t.1) ?_ ?_
      · exact fun w' hw' => ⟨(0, 0, 0), ⟨Nat.zero_le _, rfl, rfl⟩, (by repeat (first | exact Sub.nil | refine Sub.cons (by rfl) ?_)), hw'⟩
      · rintro ⟨i, a, b⟩ ⟨hi, hA, hB⟩
        dsimp only at hi hA hB ⊢
        refine CW.seq (CW.region ?_)
        refine RW.lss rfl rfl rfl ?_
        refine RW.nil (EX.seq (CW.seq ?_))
        -- mq: cond
        first | refine CW.condD rfl (fun hlt => ?_) (fun hlt => ?_) | refine CW.cond rfl (fun hlt => ?_) (fun hlt => ?_)
        · skip
          obtain rfl : i = 0 := by omega
          obtain ⟨ad, hA4, hAd, hcl⟩ := hr.at_ (getD_at (i := 0) (L := ws) (by omega))
          have hwz := hsz _ (getD_mem (i := 0) (L := ws) (by omega))
          refine CW.skip (EX.seq (CW.seq (CW.block (CW.seq (CW.region ?_)))))
          refine RW.move rfl rfl ?_
          refine RW.ixAddr (q := 0) sl78 rfl rfl rfl (by first | rfl | assumption) (by omega) (by omega) ?_
          refine RW.load1 sc79 rfl rfl (fun w' hw' => by rw [Addr.add_lit]; exact hw'.blk_cell (o := 0) Has.head rfl) ?_
          refine RW.assign rfl rfl ?_
          refine RW.assign rfl rfl ?_
          refine RW.nil (EX.seq (CW.seq ?_))
          -- mq: region
          refine CW.region ?_
          refine RW.move rfl rfl ?_
          refine RW.move rfl rfl ?_
          refine RW.ixAddr (q := 0) sl50 rfl rfl rfl (by first | rfl | assumption) (by omega) (by omega) ?_
          refine RW.load1 sc9 rfl rfl (fun w' hw' => hw'.base_cell (hcl 0 _ rfl) (by simp)) ?_
          -- mq: at
          cases hz : numF (ws.getD 0 []) with
          | none =>
            refine RW.callA (R := fun _ v _ => NoNum v) rfl ca38 rfl (fun w' hw' => numberNo_c w' (hg.ext hw'.ext) (hge.ext hw'.ext) _ hwz hz) (fun w2 w3 v hw2 he23 hw3 hlt3 hv => ?_)
            obtain ⟨y, rfl⟩ := hv
            have hx13 : Ext [] w w3 := hw2.ext.trans0 he23
            have hcv := hw2.cov
            refine RW.move rfl rfl ?_
            refine RW.extract rfl rfl rfl ?_
            refine RW.extract rfl rfl rfl ?_
            refine RW.assign rfl rfl ?_
            refine RW.assign rfl rfl ?_
            refine RW.nil (EX.seq (CW.seq (CW.seq (CW.region ?_))))
            refine RW.move rfl rfl ?_
            refine RW.not_ rfl rfl ?_
            refine RW.nil (EX.seq ?_)
            -- mq: cond
            refine CW.condT rfl (rfl) ?_
            refine CW.seq (CW.region ?_)
            refine RW.buildS bu23 rfl rfl rfl ?_
            refine RW.storeA ag23 rfl rfl (by first | exact Upd.head | exact Upd.tail Upd.head | exact Upd.tail (Upd.tail Upd.head) | exact Upd.tail (Upd.tail (Upd.tail Upd.head)) | exact Upd.tail (Upd.tail (Upd.tail (Upd.tail Upd.head))) | exact Upd.tail (Upd.tail (Upd.tail (Upd.tail (Upd.tail Upd.head)))) | exact Upd.tail (Upd.tail (Upd.tail (Upd.tail (Upd.tail (Upd.tail Upd.head)))))) (by first | rfl | exact Enc.len _ _) (by repeat (first | exact Ones.nil | exact Enc.ones _ _ | refine Ones.cons rfl ?_)) (by first | exact Nat.le_of_ble_eq_true rfl | (simp only [Enc.len]; decide)) ?_
            refine RW.assign rfl rfl ?_
            refine RW.nil (EX.seq (CW.ret (EX.seqR (EX.bkR (EX.seqR (EX.lpR (EX.bkR (EX.seqR ?_))))))))
            refine EX.fin2' Tryd.results27 (RV.cellA ag23 rfl (by first | exact Has.head | exact Has.tail Has.head | exact Has.tail (Has.tail Has.head) | exact Has.tail (Has.tail (Has.tail Has.head)) | exact Has.tail (Has.tail (Has.tail (Has.tail Has.head))) | exact Has.tail (Has.tail (Has.tail (Has.tail (Has.tail Has.head)))) | exact Has.tail (Has.tail (Has.tail (Has.tail (Has.tail (Has.tail Has.head)))))) rfl rfl) (RV.tmp rfl) (fun wz hw => ?_)
            -- mq: done
            exact ⟨by rw [fill_no1 (by omega) hz]; rfl, (hw.unbase hx13 hcv).ext⟩
          | some y =>
            refine RW.call rfl ca38 rfl (fun w' hw' => numberOk_c w' (hg.ext hw'.ext) _ y hwz hz) ?_
            refine RW.move rfl rfl ?_
            refine RW.extract rfl rfl rfl ?_
            refine RW.extract rfl rfl rfl ?_
            refine RW.assign rfl rfl ?_
            refine RW.assign rfl rfl ?_
            refine RW.nil (EX.seq (CW.seq (CW.seq (CW.region ?_))))
            refine RW.move rfl rfl ?_
            refine RW.not_ rfl rfl ?_
            refine RW.nil (EX.seq ?_)
            -- mq: cond
            refine CW.condF rfl (rfl) ?_
            refine CW.skip (EX.seq (CW.region ?_))
            refine RW.move rfl rfl ?_
            refine RW.move rfl rfl ?_
            refine RW.nilChk rfl rfl ?_
            refine RW.store1 sc3 rfl rfl (by first | exact Upd.head | exact Upd.tail Upd.head | exact Upd.tail (Upd.tail Upd.head) | exact Upd.tail (Upd.tail (Upd.tail Upd.head)) | exact Upd.tail (Upd.tail (Upd.tail (Upd.tail Upd.head))) | exact Upd.tail (Upd.tail (Upd.tail (Upd.tail (Upd.tail Upd.head)))) | exact Upd.tail (Upd.tail (Upd.tail (Upd.tail (Upd.tail (Upd.tail Upd.head)))))) rfl (by first | exact Nat.le_of_ble_eq_true rfl | simp) ?_
            refine RW.nil (EX.bkN (EX.seq (CW.region ?_)))
            refine RW.add rfl rfl rfl (wrap64 (by omega) (by omega)) ?_
            refine RW.move rfl rfl ?_
            refine RW.nil ?_
            -- mq: loopend
            have hb0 : b = 0 := by simpa using hB.symm
            have ha0 : a = 0 := by simpa using hA.symm
            subst hb0 ha0
            exact EX.lpN (1, y, 0) ⟨by dsimp only; omega, rfl, rfl⟩ (by dsimp only; omega) (by repeat (first | exact Sub.nil | refine Sub.cons (by rfl) ?_)) (fun w' hw' => hw')
        · skip
          obtain rfl : i = 1 := by omega
          have hf := fill_ok hn hh (by show ws.length = 1; omega) hA hB
          rw [hf]
          refine CW.exit (EX.seqE (EX.lpE (EX.bkE (EX.seq (CW.seq (CW.seq (CW.region ?_)))))))
          refine RW.fieldB fl47x2 rfl rfl ?_
          refine RW.loadB1 sc4 rfl rfl (by first | exact Has.head | exact Has.tail Has.head | exact Has.tail (Has.tail Has.head) | exact Has.tail (Has.tail (Has.tail Has.head)) | exact Has.tail (Has.tail (Has.tail (Has.tail Has.head))) | exact Has.tail (Has.tail (Has.tail (Has.tail (Has.tail Has.head)))) | exact Has.tail (Has.tail (Has.tail (Has.tail (Has.tail (Has.tail Has.head)))))) rfl ?_
          refine RW.not_ rfl rfl ?_
          refine RW.nil (EX.seq ?_)
          -- mq: cond
          refine CW.condT rfl (rfl) ?_
          refine CW.seq (CW.region ?_)
          refine RW.loadBA ag23 rfl rfl (by first | exact Has.head | exact Has.tail Has.head | exact Has.tail (Has.tail Has.head) | exact Has.tail (Has.tail (Has.tail Has.head)) | exact Has.tail (Has.tail (Has.tail (Has.tail Has.head))) | exact Has.tail (Has.tail (Has.tail (Has.tail (Has.tail Has.head)))) | exact Has.tail (Has.tail (Has.tail (Has.tail (Has.tail (Has.tail Has.head)))))) rfl rfl ?_
          refine RW.storeA ag23 rfl rfl (by first | exact Upd.head | exact Upd.tail Upd.head | exact Upd.tail (Upd.tail Upd.head) | exact Upd.tail (Upd.tail (Upd.tail Upd.head)) | exact Upd.tail (Upd.tail (Upd.tail (Upd.tail Upd.head))) | exact Upd.tail (Upd.tail (Upd.tail (Upd.tail (Upd.tail Upd.head)))) | exact Upd.tail (Upd.tail (Upd.tail (Upd.tail (Upd.tail (Upd.tail Upd.head)))))) (by first | rfl | exact Enc.len _ _) (by repeat (first | exact Ones.nil | exact Enc.ones _ _ | refine Ones.cons rfl ?_)) (by first | exact Nat.le_of_ble_eq_true rfl | (simp only [Enc.len]; decide)) ?_
          refine RW.assign rfl rfl ?_
          refine RW.nil (EX.seq (CW.ret (EX.seqR ?_)))
          refine EX.fin2' Tryd.results27 (RV.cellA ag23 rfl (by first | exact Has.head | exact Has.tail Has.head | exact Has.tail (Has.tail Has.head) | exact Has.tail (Has.tail (Has.tail Has.head)) | exact Has.tail (Has.tail (Has.tail (Has.tail Has.head))) | exact Has.tail (Has.tail (Has.tail (Has.tail (Has.tail Has.head)))) | exact Has.tail (Has.tail (Has.tail (Has.tail (Has.tail (Has.tail Has.head)))))) rfl rfl) (RV.tmp rfl) (fun wz hw => ?_)
          -- mq: done
          exact ⟨rfl, hw.ext⟩
  · rw [show kindV k = [.string (bs (wordsK.getD k [])), .int .i64 1, .bool true] by rw [kindV, hn, hh]; rfl]
    refine calls (n := 73) Tryd.func27 rfl Tryd.ntmps27 rfl ?_
    refine CW.sub (H' := SH w [] []) ?_ (Sub.refl _) (fun x hx => SH.start' _ _ hx)
    refine CW.seq (CW.region ?_)
    refine RW.boxA rfl rfl (fun g3 hg3 hf3 => ?_)
    refine RW.boxA rfl rfl (fun g4 hg4 hf4 => ?_)
    refine RW.allocA ag23 rfl (fun g6 hg6 hf6 => ?_)
    refine RW.assign rfl rfl ?_
    refine RW.nil (EX.seq (CW.seq ?_))
    -- mq: region
    refine CW.region ?_
    refine RW.fieldB fl47x1 rfl rfl ?_
    refine RW.loadB1 sc3 rfl rfl (by first | exact Has.head | exact Has.tail Has.head | exact Has.tail (Has.tail Has.head) | exact Has.tail (Has.tail (Has.tail Has.head)) | exact Has.tail (Has.tail (Has.tail (Has.tail Has.head))) | exact Has.tail (Has.tail (Has.tail (Has.tail (Has.tail Has.head)))) | exact Has.tail (Has.tail (Has.tail (Has.tail (Has.tail (Has.tail Has.head)))))) rfl ?_
    refine RW.assign rfl rfl ?_
    refine RW.nil (EX.seq (CW.seq (CW.seq (CW.region ?_))))
    refine RW.fieldB fl47x2 rfl rfl ?_
    refine RW.loadB1 sc4 rfl rfl (by first | exact Has.head | exact Has.tail Has.head | exact Has.tail (Has.tail Has.head) | exact Has.tail (Has.tail (Has.tail Has.head)) | exact Has.tail (Has.tail (Has.tail (Has.tail Has.head))) | exact Has.tail (Has.tail (Has.tail (Has.tail (Has.tail Has.head)))) | exact Has.tail (Has.tail (Has.tail (Has.tail (Has.tail (Has.tail Has.head)))))) rfl ?_
    refine RW.nil (EX.seq ?_)
    -- mq: cond
    refine CW.condT rfl (rfl) ?_
    refine CW.region ?_
    refine RW.move rfl rfl ?_
    refine RW.add rfl rfl rfl (wrap64 (by omega) (by omega)) ?_
    refine RW.assign rfl rfl ?_
    refine RW.nil (EX.seq (CW.seq (CW.seq (CW.region ?_))))
    refine RW.move rfl rfl ?_
    refine RW.lenSl Tryd.underlying50 rfl rfl ?_
    refine RW.move rfl rfl ?_
    refine RW.neqI rfl rfl rfl ?_
    refine RW.nil (EX.seq ?_)
    -- mq: cond
    first | refine CW.condD rfl (fun h1 => ?_) (fun h1 => ?_) | refine CW.cond rfl (fun h1 => ?_) (fun h1 => ?_)
    · skip
      refine CW.seq (CW.region ?_)
      refine RW.buildS bu23 rfl rfl rfl ?_
      refine RW.storeA ag23 rfl rfl (by first | exact Upd.head | exact Upd.tail Upd.head | exact Upd.tail (Upd.tail Upd.head) | exact Upd.tail (Upd.tail (Upd.tail Upd.head)) | exact Upd.tail (Upd.tail (Upd.tail (Upd.tail Upd.head))) | exact Upd.tail (Upd.tail (Upd.tail (Upd.tail (Upd.tail Upd.head)))) | exact Upd.tail (Upd.tail (Upd.tail (Upd.tail (Upd.tail (Upd.tail Upd.head)))))) (by first | rfl | exact Enc.len _ _) (by repeat (first | exact Ones.nil | exact Enc.ones _ _ | refine Ones.cons rfl ?_)) (by first | exact Nat.le_of_ble_eq_true rfl | (simp only [Enc.len]; decide)) ?_
      refine RW.assign rfl rfl ?_
      refine RW.nil (EX.seq (CW.ret (EX.seqR ?_)))
      refine EX.fin2' Tryd.results27 (RV.cellA ag23 rfl (by first | exact Has.head | exact Has.tail Has.head | exact Has.tail (Has.tail Has.head) | exact Has.tail (Has.tail (Has.tail Has.head)) | exact Has.tail (Has.tail (Has.tail (Has.tail Has.head))) | exact Has.tail (Has.tail (Has.tail (Has.tail (Has.tail Has.head)))) | exact Has.tail (Has.tail (Has.tail (Has.tail (Has.tail (Has.tail Has.head)))))) rfl rfl) (RV.tmp rfl) (fun wz hw => ?_)
      -- mq: done
      exact ⟨by rw [fill_len hn hh (by show ws.length ≠ 2; omega)]; rfl, hw.ext⟩
    · skip
      have hwl : ws.length = 2 := by omega
      refine CW.skip (EX.seq (CW.seq (CW.seq (CW.region ?_))))
      refine RW.fieldB fl23x1 rfl rfl ?_
      refine RW.fieldB fl23x2 rfl rfl ?_
      refine RW.buildSlc sl78 rfl rfl rfl rfl (fun g28 hg28 hf28 => ?_)
      refine RW.fieldB fl47x1 rfl rfl ?_
      refine RW.loadB1 sc3 rfl rfl (by first | exact Has.head | exact Has.tail Has.head | exact Has.tail (Has.tail Has.head) | exact Has.tail (Has.tail (Has.tail Has.head)) | exact Has.tail (Has.tail (Has.tail (Has.tail Has.head))) | exact Has.tail (Has.tail (Has.tail (Has.tail (Has.tail Has.head)))) | exact Has.tail (Has.tail (Has.tail (Has.tail (Has.tail (Has.tail Has.head)))))) rfl ?_
      refine RW.sliceSl 0 1 sl78 rfl rfl (.inr ⟨rfl, rfl⟩) (.inl ⟨_, _, rfl, rfl, rfl⟩) (by decide) (by decide) ?_
      refine RW.lenSl Tryd.underlying78 rfl rfl ?_
      refine RW.move rfl rfl ?_
      refine RW.nil (EX.seq (CW.block ?_))
      -- mq: loop
      refine CW.loop (ι := Nat × Int × Int) (fun t => [(2, .slice A m c), (3, .pointer (some ⟨g3, 0, none⟩)), (4, .pointer (some ⟨g4, 0, none⟩)), (6, .pointer (some ⟨g6, 0, none⟩)), (31, .slice (some ⟨g28, 0, none⟩) 1 2), (32, .int .i64 1), (33, .int .i64 (t.1 : Int))]) (fun t => SH w [] [blk g28 [.pointer (some ⟨g3, 1, none⟩), .pointer (some ⟨g3, 2, none⟩)] 79, blk g6 [.int .i64 0, .int .i64 0, .int .i64 0, .string (bs [])] 23, blk g4 [.string (bs (wordsK.getD k [])), .int .i64 1, .bool true] 47, blk g3 [.int .i64 (k : Int), .int .i64 t.2.1, .int .i64 t.2.2, .string (bs [])] 23]) (fun t => t.1 ≤ 1 ∧ (if 1 ≤ t.1 then numF (ws.getD 0 []) else some 0) = some t.2.1 ∧ (if 2 ≤ t.1 then numF (ws.getD 1 []) else some 0) = some t.2.2) (fun t => 1 - t.1) ?_ ?_
      · exact fun w' hw' => ⟨(0, 0, 0), ⟨Nat.zero_le _, rfl, rfl⟩, (by repeat (first | exact Sub.nil | refine Sub.cons (by rfl) ?_)), hw'⟩
      · rintro ⟨i, a, b⟩ ⟨hi, hA, hB⟩
        dsimp only at hi hA hB ⊢
        refine CW.seq (CW.region ?_)
        refine RW.lss rfl rfl rfl ?_
        refine RW.nil (EX.seq (CW.seq ?_))
        -- mq: cond
        first | refine CW.condD rfl (fun hlt => ?_) (fun hlt => ?_) | refine CW.cond rfl (fun hlt => ?_) (fun hlt => ?_)
        · skip
          obtain rfl : i = 0 := by omega
          obtain ⟨ad, hA4, hAd, hcl⟩ := hr.at_ (getD_at (i := 0) (L := ws) (by omega))
          have hwz := hsz _ (getD_mem (i := 0) (L := ws) (by omega))
          refine CW.skip (EX.seq (CW.seq (CW.block (CW.seq (CW.region ?_)))))
          refine RW.move rfl rfl ?_
          refine RW.ixAddr (q := 0) sl78 rfl rfl rfl (by first | rfl | assumption) (by omega) (by omega) ?_
          refine RW.load1 sc79 rfl rfl (fun w' hw' => by rw [Addr.add_lit]; exact hw'.blk_cell (o := 0) Has.head rfl) ?_
          refine RW.assign rfl rfl ?_
          refine RW.assign rfl rfl ?_
          refine RW.nil (EX.seq (CW.seq ?_))
          -- mq: region
          refine CW.region ?_
          refine RW.move rfl rfl ?_
          refine RW.move rfl rfl ?_
          refine RW.ixAddr (q := 0) sl50 rfl rfl rfl (by first | rfl | assumption) (by omega) (by omega) ?_
          refine RW.load1 sc9 rfl rfl (fun w' hw' => hw'.base_cell (hcl 0 _ rfl) (by simp)) ?_
          -- mq: at
          cases hz : numF (ws.getD 0 []) with
          | none =>
            refine RW.callA (R := fun _ v _ => NoNum v) rfl ca38 rfl (fun w' hw' => numberNo_c w' (hg.ext hw'.ext) (hge.ext hw'.ext) _ hwz hz) (fun w2 w3 v hw2 he23 hw3 hlt3 hv => ?_)
            obtain ⟨y, rfl⟩ := hv
            have hx13 : Ext [] w w3 := hw2.ext.trans0 he23
            have hcv := hw2.cov
            refine RW.move rfl rfl ?_
            refine RW.extract rfl rfl rfl ?_
            refine RW.extract rfl rfl rfl ?_
            refine RW.assign rfl rfl ?_
            refine RW.assign rfl rfl ?_
            refine RW.nil (EX.seq (CW.seq (CW.seq (CW.region ?_))))
            refine RW.move rfl rfl ?_
            refine RW.not_ rfl rfl ?_
            refine RW.nil (EX.seq ?_)
            -- mq: cond
            refine CW.condT rfl (rfl) ?_
            refine CW.seq (CW.region ?_)
            refine RW.buildS bu23 rfl rfl rfl ?_
            refine RW.storeA ag23 rfl rfl (by first | exact Upd.head | exact Upd.tail Upd.head | exact Upd.tail (Upd.tail Upd.head) | exact Upd.tail (Upd.tail (Upd.tail Upd.head)) | exact Upd.tail (Upd.tail (Upd.tail (Upd.tail Upd.head))) | exact Upd.tail (Upd.tail (Upd.tail (Upd.tail (Upd.tail Upd.head)))) | exact Upd.tail (Upd.tail (Upd.tail (Upd.tail (Upd.tail (Upd.tail Upd.head)))))) (by first | rfl | exact Enc.len _ _) (by repeat (first | exact Ones.nil | exact Enc.ones _ _ | refine Ones.cons rfl ?_)) (by first | exact Nat.le_of_ble_eq_true rfl | (simp only [Enc.len]; decide)) ?_
            refine RW.assign rfl rfl ?_
            refine RW.nil (EX.seq (CW.ret (EX.seqR (EX.bkR (EX.seqR (EX.lpR (EX.bkR (EX.seqR ?_))))))))
            refine EX.fin2' Tryd.results27 (RV.cellA ag23 rfl (by first | exact Has.head | exact Has.tail Has.head | exact Has.tail (Has.tail Has.head) | exact Has.tail (Has.tail (Has.tail Has.head)) | exact Has.tail (Has.tail (Has.tail (Has.tail Has.head))) | exact Has.tail (Has.tail (Has.tail (Has.tail (Has.tail Has.head)))) | exact Has.tail (Has.tail (Has.tail (Has.tail (Has.tail (Has.tail Has.head)))))) rfl rfl) (RV.tmp rfl) (fun wz hw => ?_)
            -- mq: done
            exact ⟨by rw [fill_no1 (by omega) hz]; rfl, (hw.unbase hx13 hcv).ext⟩
          | some y =>
            refine RW.call rfl ca38 rfl (fun w' hw' => numberOk_c w' (hg.ext hw'.ext) _ y hwz hz) ?_
            refine RW.move rfl rfl ?_
            refine RW.extract rfl rfl rfl ?_
            refine RW.extract rfl rfl rfl ?_
            refine RW.assign rfl rfl ?_
            refine RW.assign rfl rfl ?_
            refine RW.nil (EX.seq (CW.seq (CW.seq (CW.region ?_))))
            refine RW.move rfl rfl ?_
            refine RW.not_ rfl rfl ?_
            refine RW.nil (EX.seq ?_)
            -- mq: cond
            refine CW.condF rfl (rfl) ?_
            refine CW.skip (EX.seq (CW.region ?_))
            refine RW.move rfl rfl ?_
            refine RW.move rfl rfl ?_
            refine RW.nilChk rfl rfl ?_
            refine RW.store1 sc3 rfl rfl (by first | exact Upd.head | exact Upd.tail Upd.head | exact Upd.tail (Upd.tail Upd.head) | exact Upd.tail (Upd.tail (Upd.tail Upd.head)) | exact Upd.tail (Upd.tail (Upd.tail (Upd.tail Upd.head))) | exact Upd.tail (Upd.tail (Upd.tail (Upd.tail (Upd.tail Upd.head)))) | exact Upd.tail (Upd.tail (Upd.tail (Upd.tail (Upd.tail (Upd.tail Upd.head)))))) rfl (by first | exact Nat.le_of_ble_eq_true rfl | simp) ?_
            refine RW.nil (EX.bkN (EX.seq (CW.region ?_)))
            refine RW.add rfl rfl rfl (wrap64 (by omega) (by omega)) ?_
            refine RW.move rfl rfl ?_
            refine RW.nil ?_
            -- mq: loopend
            have hb0 : b = 0 := by simpa using hB.symm
            have ha0 : a = 0 := by simpa using hA.symm
            subst hb0 ha0
            exact EX.lpN (1, y, 0) ⟨by dsimp only; omega, rfl, rfl⟩ (by dsimp only; omega) (by repeat (first | exact Sub.nil | refine Sub.cons (by rfl) ?_)) (fun w' hw' => hw')
        · skip
          obtain rfl : i = 1 := by omega
          have hf := fill_ok hn hh (by show ws.length = 2; omega) hA hB
          rw [hf]
          refine CW.exit (EX.seqE (EX.lpE (EX.bkE (EX.seq (CW.seq (CW.seq (CW.region ?_)))))))
          refine RW.fieldB fl47x2 rfl rfl ?_
          refine RW.loadB1 sc4 rfl rfl (by first | exact Has.head | exact Has.tail Has.head | exact Has.tail (Has.tail Has.head) | exact Has.tail (Has.tail (Has.tail Has.head)) | exact Has.tail (Has.tail (Has.tail (Has.tail Has.head))) | exact Has.tail (Has.tail (Has.tail (Has.tail (Has.tail Has.head)))) | exact Has.tail (Has.tail (Has.tail (Has.tail (Has.tail (Has.tail Has.head)))))) rfl ?_
          refine RW.not_ rfl rfl ?_
          refine RW.nil (EX.seq ?_)
          -- mq: cond
          refine CW.condF rfl (rfl) ?_
          obtain ⟨ad, hA4, hAd, hcl⟩ := hr.at_ (getD_at (i := 1) (L := ws) (by omega))
          have hwz := hsz _ (getD_mem (i := 1) (L := ws) (by omega))
          refine CW.skip (EX.seq (CW.seq (CW.region ?_)))
          refine RW.move rfl rfl ?_
          refine RW.fieldB fl47x1 rfl rfl ?_
          refine RW.loadB1 sc3 rfl rfl (by first | exact Has.head | exact Has.tail Has.head | exact Has.tail (Has.tail Has.head) | exact Has.tail (Has.tail (Has.tail Has.head)) | exact Has.tail (Has.tail (Has.tail (Has.tail Has.head))) | exact Has.tail (Has.tail (Has.tail (Has.tail (Has.tail Has.head)))) | exact Has.tail (Has.tail (Has.tail (Has.tail (Has.tail (Has.tail Has.head)))))) rfl ?_
          refine RW.ixAddr (q := 1) sl50 rfl rfl rfl (by first | rfl | assumption) (by omega) (by omega) ?_
          refine RW.load1 sc9 rfl rfl (fun w' hw' => hw'.base_cell (hcl 0 _ rfl) (by simp)) ?_
          refine RW.call rfl ca39 rfl (fun w' _ => bytes_c w' _ hwz) ?_
          refine RW.move rfl rfl ?_
          refine RW.extract rfl rfl rfl ?_
          refine RW.extract rfl rfl rfl ?_
          refine RW.assign rfl rfl ?_
          refine RW.assign rfl rfl ?_
          refine RW.nil (EX.seq (CW.seq (CW.seq (CW.region ?_))))
          refine RW.move rfl rfl ?_
          refine RW.neqI rfl rfl rfl ?_
          refine RW.nil (EX.seq ?_)
          -- mq: cond
          first | refine CW.condD rfl (fun h4 => ?_) (fun h4 => ?_) | refine CW.cond rfl (fun h4 => ?_) (fun h4 => ?_)
          · skip
            refine CW.seq (CW.region ?_)
            refine RW.buildS bu23 rfl rfl rfl ?_
            refine RW.move rfl rfl ?_
            refine RW.storeA ag23 rfl rfl (by first | exact Upd.head | exact Upd.tail Upd.head | exact Upd.tail (Upd.tail Upd.head) | exact Upd.tail (Upd.tail (Upd.tail Upd.head)) | exact Upd.tail (Upd.tail (Upd.tail (Upd.tail Upd.head))) | exact Upd.tail (Upd.tail (Upd.tail (Upd.tail (Upd.tail Upd.head)))) | exact Upd.tail (Upd.tail (Upd.tail (Upd.tail (Upd.tail (Upd.tail Upd.head)))))) (by first | rfl | exact Enc.len _ _) (by repeat (first | exact Ones.nil | exact Enc.ones _ _ | refine Ones.cons rfl ?_)) (by first | exact Nat.le_of_ble_eq_true rfl | (simp only [Enc.len]; decide)) ?_
            refine RW.assign rfl rfl ?_
            refine RW.nil (EX.seq (CW.ret (EX.seqR ?_)))
            refine EX.fin2' Tryd.results27 (RV.cellA ag23 rfl (by first | exact Has.head | exact Has.tail Has.head | exact Has.tail (Has.tail Has.head) | exact Has.tail (Has.tail (Has.tail Has.head)) | exact Has.tail (Has.tail (Has.tail (Has.tail Has.head))) | exact Has.tail (Has.tail (Has.tail (Has.tail (Has.tail Has.head)))) | exact Has.tail (Has.tail (Has.tail (Has.tail (Has.tail (Has.tail Has.head)))))) rfl rfl) (RV.tmp rfl) (fun wz hw => ?_)
            -- mq: done
            exact ⟨by rw [if_pos rfl, if_neg (by omega)]; rfl, hw.ext⟩
          · skip
            refine CW.skip (EX.seq (CW.seq (CW.region ?_)))
            refine RW.move rfl rfl ?_
            refine RW.fieldB fl23x3 rfl rfl ?_
            refine RW.store1 sc9 rfl rfl (by first | exact Upd.head | exact Upd.tail Upd.head | exact Upd.tail (Upd.tail Upd.head) | exact Upd.tail (Upd.tail (Upd.tail Upd.head)) | exact Upd.tail (Upd.tail (Upd.tail (Upd.tail Upd.head))) | exact Upd.tail (Upd.tail (Upd.tail (Upd.tail (Upd.tail Upd.head)))) | exact Upd.tail (Upd.tail (Upd.tail (Upd.tail (Upd.tail (Upd.tail Upd.head)))))) rfl (by first | exact Nat.le_of_ble_eq_true rfl | simp) ?_
            refine RW.nil (EX.seq (CW.seq (CW.region ?_)))
            refine RW.loadBA ag23 rfl rfl (by first | exact Has.head | exact Has.tail Has.head | exact Has.tail (Has.tail Has.head) | exact Has.tail (Has.tail (Has.tail Has.head)) | exact Has.tail (Has.tail (Has.tail (Has.tail Has.head))) | exact Has.tail (Has.tail (Has.tail (Has.tail (Has.tail Has.head)))) | exact Has.tail (Has.tail (Has.tail (Has.tail (Has.tail (Has.tail Has.head)))))) rfl rfl ?_
            refine RW.storeA ag23 rfl rfl (by first | exact Upd.head | exact Upd.tail Upd.head | exact Upd.tail (Upd.tail Upd.head) | exact Upd.tail (Upd.tail (Upd.tail Upd.head)) | exact Upd.tail (Upd.tail (Upd.tail (Upd.tail Upd.head))) | exact Upd.tail (Upd.tail (Upd.tail (Upd.tail (Upd.tail Upd.head)))) | exact Upd.tail (Upd.tail (Upd.tail (Upd.tail (Upd.tail (Upd.tail Upd.head)))))) (by first | rfl | exact Enc.len _ _) (by repeat (first | exact Ones.nil | exact Enc.ones _ _ | refine Ones.cons rfl ?_)) (by first | exact Nat.le_of_ble_eq_true rfl | (simp only [Enc.len]; decide)) ?_
            refine RW.assign rfl rfl ?_
            refine RW.nil (EX.seq (CW.ret ?_))
            refine EX.fin2' Tryd.results27 (RV.cellA ag23 rfl (by first | exact Has.head | exact Has.tail Has.head | exact Has.tail (Has.tail Has.head) | exact Has.tail (Has.tail (Has.tail Has.head)) | exact Has.tail (Has.tail (Has.tail (Has.tail Has.head))) | exact Has.tail (Has.tail (Has.tail (Has.tail (Has.tail Has.head)))) | exact Has.tail (Has.tail (Has.tail (Has.tail (Has.tail (Has.tail Has.head)))))) rfl rfl) (RV.tmp rfl) (fun wz hw => ?_)
            -- mq: done
            exact ⟨by rw [if_pos rfl, if_pos (by omega)]; rfl, hw.ext⟩
end Go.Proofs.YtnpafpnameleaaaDoor.Mq
