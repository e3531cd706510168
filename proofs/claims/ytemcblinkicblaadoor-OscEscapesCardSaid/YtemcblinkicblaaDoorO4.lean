/- osc: Read, Write -/
import Derived.Test.YtemcblinkicblaaDoorO3
import Derived.Test.YtemcblinkicblaaDoorItoa
namespace Go.Proofs.YtemcblinkicblaaDoor.Mq
open Go Go.RowKit Go.Proofs

theorem file_len (s : List UInt8) (p : List UInt8 × List UInt8) (h : fileL s = some p) : p.2.length ≤ s.length := by
  unfold fileL at h
  split at h
  · split at h
    · cases h
    · cases h
      have := takeL_length _ ((s.drop 7).drop (Lib.indexByte (s.drop 7) 47).toNat) (Nat.le_refl _)
      rw [List.length_drop, List.length_drop] at this
      dsimp only
      omega
  · cases h
structure GO (w : World) : Prop where
  l : Gl w
  e : Ge w
  m : Gm w
theorem GO.ext {w w' : World} (h : GO w) (hx : Ext [] w w') : GO w' := ⟨h.l.ext hx, h.e.ext hx, h.m.ext hx⟩
set_option maxHeartbeats 1000000 in
theorem Read_c (w : World) (hg : GO w) (s : List UInt8) (hs : s.length ≤ 1000000) :
    Calls Tryd.prog 10 [.string (bs s)].toArray w (fun e w' => e = .returned (.agg (readO s).cells.toArray) ∧ Ext [] w w') := by
  have hm : ∀ x ∈ fullP 59 s, x.length ≤ 1000000 := fun x hx => by have := (full_mem 59 s x hx).2; omega
  have hrl := restF_len s
  have hro : readO s = if oneF s = [49, 51, 51] ∨ oneF s = [54, 51, 51] then shellF (decide (oneF s = [54, 51, 51])) (twoF s) (threeF s) (hasF s) else if oneF s = [55] then fileS (restF s) else if oneF s = [49, 51, 51, 55] then setS (restF s) else if (oneF s = [48] ∨ oneF s = [50]) ∧ 59 ∈ s then textS 8 (restF s) else noneS := rfl
  have hF := fun w' => File_c w' (restF s) (by omega)
  have hfl := file_len (restF s)
  refine calls (n := 64) Tryd.func10 rfl Tryd.ntmps10 rfl ?_
  refine CW.sub (H' := SH w [] []) ?_ (Sub.refl _) (fun x hx => SH.start' _ _ hx)
  refine CW.seq (CW.region ?_)
  refine RW.allocA ag24 rfl (fun g2 hg2 hf2 => ?_)
  refine RW.nil (EX.seq (CW.seq ?_))
  -- mq: region
  refine CW.region ?_
  refine RW.move rfl rfl ?_
  -- mq: at
  refine RW.callA (R := fun w0 => IsRdr s w0) rfl ca20 rfl (fun w' hw' => open_c w' (hg.ext hw'.ext).m s hs) (fun w1 w2 v hw1 he12 hw2 hlt2 hv => ?_)
  obtain ⟨A, n, c, rfl, hrd⟩ := hv
  have hx12 : Ext [] w w2 := hw1.ext.trans0 he12
  have hcv := hw1.cov
  have hE : ∀ w', Ext (feet [blk g2 [.int .i64 0, .int .i64 0, .bool false, .string ByteArray.empty] 24]) w2 w' → Ext [] w w' := fun w' h => hx12.trans h hcv
  have hR : ∀ w', Ext (feet [blk g2 [.int .i64 0, .int .i64 0, .bool false, .string ByteArray.empty] 24]) w2 w' → Rd EStr w' (fun k => w1.heap.size ≤ k) A n c (fullP 59 s) := fun w' h => hrd.ext h (fun k hk hk2 => by have := hlt2 k hk2; omega)
  refine RW.allocA ag36 rfl (fun g3 hg3 hf3 => ?_)
  refine RW.storeA ag36 rfl rfl (by first | exact Upd.head | exact Upd.tail Upd.head | exact Upd.tail (Upd.tail Upd.head) | exact Upd.tail (Upd.tail (Upd.tail Upd.head)) | exact Upd.tail (Upd.tail (Upd.tail (Upd.tail Upd.head))) | exact Upd.tail (Upd.tail (Upd.tail (Upd.tail (Upd.tail Upd.head)))) | exact Upd.tail (Upd.tail (Upd.tail (Upd.tail (Upd.tail (Upd.tail Upd.head)))))) (by first | rfl | exact Enc.len _ _) (by repeat (first | exact Ones.nil | exact Enc.ones _ _ | refine Ones.cons rfl ?_)) (by first | exact Nat.le_of_ble_eq_true rfl | (simp only [Enc.len]; decide)) ?_
  refine RW.nil (EX.seq (CW.seq ?_))
  -- mq: region
  refine CW.region ?_
  refine RW.fieldB fl36x0 rfl rfl ?_
  refine RW.loadB1 sc34 rfl rfl (by first | exact Has.head | exact Has.tail Has.head | exact Has.tail (Has.tail Has.head) | exact Has.tail (Has.tail (Has.tail Has.head)) | exact Has.tail (Has.tail (Has.tail (Has.tail Has.head))) | exact Has.tail (Has.tail (Has.tail (Has.tail (Has.tail Has.head)))) | exact Has.tail (Has.tail (Has.tail (Has.tail (Has.tail (Has.tail Has.head)))))) rfl ?_
  refine RW.call rfl ca21 rfl (fun w' hw' => field_c w' _ A n c _ (hR w' hw'.ext) 0) ?_
  refine RW.move rfl rfl ?_
  refine RW.extract rfl rfl rfl ?_
  refine RW.extract rfl rfl rfl ?_
  refine RW.assign rfl rfl ?_
  refine RW.assign rfl rfl ?_
  refine RW.nil (EX.seq (CW.seq (CW.seq ?_)))
  -- mq: region
  rw [show (fullP 59 s).getD 0 [] = oneF s from rfl]
  have hsh : ∀ full w', Ext (feet [blk g2 [.int .i64 0, .int .i64 0, .bool false, .string ByteArray.empty] 24]) w2 w' → Calls Tryd.prog 22 [.agg #[.slice A n c, .string (bs (restF s)), .bool (decide (59 ∈ s))], .bool full].toArray w' (fun e w'' => e = .returned (.agg (shellF full (twoF s) (threeF s) (hasF s)).cells.toArray) ∧ Ext [] w' w'') := fun full w' h => shell_c w' (hg.ext (hE w' h)).e _ A n c _ (hR w' h) _ _ full hm
  generalize hone : oneF s = one at *
  generalize hrest : restF s = rest at *
  refine CW.region ?_
  refine RW.move rfl rfl ?_
  refine RW.nil (EX.seq (CW.block (CW.seq (CW.seq (CW.region ?_)))))
  refine RW.eqlS rfl rfl rfl ?_
  refine RW.assign rfl rfl ?_
  refine RW.nil (EX.seq ?_)
  -- mq: cond
  first | refine CW.condD rfl (fun h1 => ?_) (fun h1 => ?_) | refine CW.cond rfl (fun h1 => ?_) (fun h1 => ?_)
  · skip
    refine CW.skip (EX.seq ?_)
    -- mq: cond
    refine CW.condT rfl ((decide_eq_true h1)) ?_
    refine CW.seq (CW.region ?_)
    refine RW.loadBA ag36 rfl rfl (by first | exact Has.head | exact Has.tail Has.head | exact Has.tail (Has.tail Has.head) | exact Has.tail (Has.tail (Has.tail Has.head)) | exact Has.tail (Has.tail (Has.tail (Has.tail Has.head))) | exact Has.tail (Has.tail (Has.tail (Has.tail (Has.tail Has.head)))) | exact Has.tail (Has.tail (Has.tail (Has.tail (Has.tail (Has.tail Has.head)))))) rfl rfl ?_
    refine RW.move rfl rfl ?_
    refine RW.eqlS rfl rfl rfl ?_
    refine RW.call rfl ca22 rfl (fun w' hw' => hsh (decide (one = [54, 51, 51])) w' hw'.ext) ?_
    refine RW.storeA ag24 rfl rfl (by first | exact Upd.head | exact Upd.tail Upd.head | exact Upd.tail (Upd.tail Upd.head) | exact Upd.tail (Upd.tail (Upd.tail Upd.head)) | exact Upd.tail (Upd.tail (Upd.tail (Upd.tail Upd.head))) | exact Upd.tail (Upd.tail (Upd.tail (Upd.tail (Upd.tail Upd.head)))) | exact Upd.tail (Upd.tail (Upd.tail (Upd.tail (Upd.tail (Upd.tail Upd.head)))))) (by first | rfl | exact Enc.len _ _) (by repeat (first | exact Ones.nil | exact Enc.ones _ _ | refine Ones.cons rfl ?_)) (by first | exact Nat.le_of_ble_eq_true rfl | (simp only [Enc.len]; decide)) ?_
    refine RW.nil (EX.seq (CW.ret (EX.bkR (EX.seqR ?_))))
    refine EX.fin1' Tryd.results10 (RV.cellA ag24 rfl (by first | exact Has.head | exact Has.tail Has.head | exact Has.tail (Has.tail Has.head) | exact Has.tail (Has.tail (Has.tail Has.head)) | exact Has.tail (Has.tail (Has.tail (Has.tail Has.head))) | exact Has.tail (Has.tail (Has.tail (Has.tail (Has.tail Has.head)))) | exact Has.tail (Has.tail (Has.tail (Has.tail (Has.tail (Has.tail Has.head)))))) rfl rfl) (fun wz hw => ?_)
    -- mq: done
    exact ⟨by rw [hro, if_pos (.inl h1)]; rfl, hE _ hw.ext⟩
  · skip
    refine CW.region ?_
    refine RW.eqlS rfl rfl rfl ?_
    refine RW.assign rfl rfl ?_
    refine RW.nil (EX.seq ?_)
    -- mq: cond
    first | refine CW.condD rfl (fun h2 => ?_) (fun h2 => ?_) | refine CW.cond rfl (fun h2 => ?_) (fun h2 => ?_)
    · skip
      refine CW.seq (CW.region ?_)
      refine RW.loadBA ag36 rfl rfl (by first | exact Has.head | exact Has.tail Has.head | exact Has.tail (Has.tail Has.head) | exact Has.tail (Has.tail (Has.tail Has.head)) | exact Has.tail (Has.tail (Has.tail (Has.tail Has.head))) | exact Has.tail (Has.tail (Has.tail (Has.tail (Has.tail Has.head)))) | exact Has.tail (Has.tail (Has.tail (Has.tail (Has.tail (Has.tail Has.head)))))) rfl rfl ?_
      refine RW.move rfl rfl ?_
      refine RW.eqlS rfl rfl rfl ?_
      refine RW.call rfl ca22 rfl (fun w' hw' => hsh (decide (one = [54, 51, 51])) w' hw'.ext) ?_
      refine RW.storeA ag24 rfl rfl (by first | exact Upd.head | exact Upd.tail Upd.head | exact Upd.tail (Upd.tail Upd.head) | exact Upd.tail (Upd.tail (Upd.tail Upd.head)) | exact Upd.tail (Upd.tail (Upd.tail (Upd.tail Upd.head))) | exact Upd.tail (Upd.tail (Upd.tail (Upd.tail (Upd.tail Upd.head)))) | exact Upd.tail (Upd.tail (Upd.tail (Upd.tail (Upd.tail (Upd.tail Upd.head)))))) (by first | rfl | exact Enc.len _ _) (by repeat (first | exact Ones.nil | exact Enc.ones _ _ | refine Ones.cons rfl ?_)) (by first | exact Nat.le_of_ble_eq_true rfl | (simp only [Enc.len]; decide)) ?_
      refine RW.nil (EX.seq (CW.ret (EX.bkR (EX.seqR ?_))))
      refine EX.fin1' Tryd.results10 (RV.cellA ag24 rfl (by first | exact Has.head | exact Has.tail Has.head | exact Has.tail (Has.tail Has.head) | exact Has.tail (Has.tail (Has.tail Has.head)) | exact Has.tail (Has.tail (Has.tail (Has.tail Has.head))) | exact Has.tail (Has.tail (Has.tail (Has.tail (Has.tail Has.head)))) | exact Has.tail (Has.tail (Has.tail (Has.tail (Has.tail (Has.tail Has.head)))))) rfl rfl) (fun wz hw => ?_)
      -- mq: done
      exact ⟨by rw [hro, if_pos (.inr h2)]; rfl, hE _ hw.ext⟩
    · skip
      rw [if_neg (fun h => h.elim h1 h2)] at hro
      refine CW.seq (CW.region ?_)
      refine RW.eqlS rfl rfl rfl ?_
      refine RW.assign rfl rfl ?_
      refine RW.nil (EX.seq ?_)
      -- mq: cond
      first | refine CW.condD rfl (fun h3 => ?_) (fun h3 => ?_) | refine CW.cond rfl (fun h3 => ?_) (fun h3 => ?_)
      · skip
        rw [if_pos h3] at hro
        cases hfi : fileL rest with
        | some p =>
          have hpl := hfl p hfi
          rw [show fileV rest = .tuple #[.string (bs p.1), .string (bs p.2), .int .i64 0] by rw [fileV, hfi]] at hF
          refine CW.seq (CW.region ?_)
          refine RW.fieldB fl36x1 rfl rfl ?_
          refine RW.loadB1 sc9 rfl rfl (by first | exact Has.head | exact Has.tail Has.head | exact Has.tail (Has.tail Has.head) | exact Has.tail (Has.tail (Has.tail Has.head)) | exact Has.tail (Has.tail (Has.tail (Has.tail Has.head))) | exact Has.tail (Has.tail (Has.tail (Has.tail (Has.tail Has.head)))) | exact Has.tail (Has.tail (Has.tail (Has.tail (Has.tail (Has.tail Has.head)))))) rfl ?_
          refine RW.call rfl ca23 rfl (fun w' _ => hF w') ?_
          refine RW.move rfl rfl ?_
          refine RW.extract rfl rfl rfl ?_
          refine RW.extract rfl rfl rfl ?_
          refine RW.extract rfl rfl rfl ?_
          refine RW.assign rfl rfl ?_
          refine RW.assign rfl rfl ?_
          refine RW.assign rfl rfl ?_
          refine RW.nil (EX.seq (CW.seq (CW.region ?_)))
          refine RW.move rfl rfl ?_
          refine RW.eqlI rfl rfl rfl ?_
          refine RW.nil (EX.seq ?_)
          -- mq: cond
          refine CW.condT rfl (rfl) ?_
          refine CW.seq (CW.region ?_)
          refine RW.move rfl rfl ?_
          refine RW.call rfl ca24 rfl (fun w' _ => text_c w' 6 p.2 (by omega)) ?_
          refine RW.storeA ag24 rfl rfl (by first | exact Upd.head | exact Upd.tail Upd.head | exact Upd.tail (Upd.tail Upd.head) | exact Upd.tail (Upd.tail (Upd.tail Upd.head)) | exact Upd.tail (Upd.tail (Upd.tail (Upd.tail Upd.head))) | exact Upd.tail (Upd.tail (Upd.tail (Upd.tail (Upd.tail Upd.head)))) | exact Upd.tail (Upd.tail (Upd.tail (Upd.tail (Upd.tail (Upd.tail Upd.head)))))) (by first | rfl | exact Enc.len _ _) (by repeat (first | exact Ones.nil | exact Enc.ones _ _ | refine Ones.cons rfl ?_)) (by first | exact Nat.le_of_ble_eq_true rfl | (simp only [Enc.len]; decide)) ?_
          refine RW.nil (EX.seq (CW.ret (EX.bkR (EX.seqR ?_))))
          refine EX.fin1' Tryd.results10 (RV.cellA ag24 rfl (by first | exact Has.head | exact Has.tail Has.head | exact Has.tail (Has.tail Has.head) | exact Has.tail (Has.tail (Has.tail Has.head)) | exact Has.tail (Has.tail (Has.tail (Has.tail Has.head))) | exact Has.tail (Has.tail (Has.tail (Has.tail (Has.tail Has.head)))) | exact Has.tail (Has.tail (Has.tail (Has.tail (Has.tail (Has.tail Has.head)))))) rfl rfl) (fun wz hw => ?_)
          -- mq: done
          exact ⟨by rw [hro, fileS, hfi]; rfl, hE _ hw.ext⟩
        | none =>
          rw [show fileV rest = .tuple #[.string (bs []), .string (bs []), .int .i64 4] by rw [fileV, hfi]] at hF
          refine CW.seq (CW.region ?_)
          refine RW.fieldB fl36x1 rfl rfl ?_
          refine RW.loadB1 sc9 rfl rfl (by first | exact Has.head | exact Has.tail Has.head | exact Has.tail (Has.tail Has.head) | exact Has.tail (Has.tail (Has.tail Has.head)) | exact Has.tail (Has.tail (Has.tail (Has.tail Has.head))) | exact Has.tail (Has.tail (Has.tail (Has.tail (Has.tail Has.head)))) | exact Has.tail (Has.tail (Has.tail (Has.tail (Has.tail (Has.tail Has.head)))))) rfl ?_
          refine RW.call rfl ca23 rfl (fun w' _ => hF w') ?_
          refine RW.move rfl rfl ?_
          refine RW.extract rfl rfl rfl ?_
          refine RW.extract rfl rfl rfl ?_
          refine RW.extract rfl rfl rfl ?_
          refine RW.assign rfl rfl ?_
          refine RW.assign rfl rfl ?_
          refine RW.assign rfl rfl ?_
          refine RW.nil (EX.seq (CW.seq (CW.region ?_)))
          refine RW.move rfl rfl ?_
          refine RW.eqlI rfl rfl rfl ?_
          refine RW.nil (EX.seq ?_)
          -- mq: cond
          refine CW.condF rfl (rfl) ?_
          refine CW.skip (EX.bkN (EX.seq (CW.seq (CW.region ?_))))
          refine RW.buildS bu24 rfl rfl rfl ?_
          refine RW.storeA ag24 rfl rfl (by first | exact Upd.head | exact Upd.tail Upd.head | exact Upd.tail (Upd.tail Upd.head) | exact Upd.tail (Upd.tail (Upd.tail Upd.head)) | exact Upd.tail (Upd.tail (Upd.tail (Upd.tail Upd.head))) | exact Upd.tail (Upd.tail (Upd.tail (Upd.tail (Upd.tail Upd.head)))) | exact Upd.tail (Upd.tail (Upd.tail (Upd.tail (Upd.tail (Upd.tail Upd.head)))))) (by first | rfl | exact Enc.len _ _) (by repeat (first | exact Ones.nil | exact Enc.ones _ _ | refine Ones.cons rfl ?_)) (by first | exact Nat.le_of_ble_eq_true rfl | (simp only [Enc.len]; decide)) ?_
          refine RW.nil (EX.seq (CW.ret ?_))
          refine EX.fin1' Tryd.results10 (RV.cellA ag24 rfl (by first | exact Has.head | exact Has.tail Has.head | exact Has.tail (Has.tail Has.head) | exact Has.tail (Has.tail (Has.tail Has.head)) | exact Has.tail (Has.tail (Has.tail (Has.tail Has.head))) | exact Has.tail (Has.tail (Has.tail (Has.tail (Has.tail Has.head)))) | exact Has.tail (Has.tail (Has.tail (Has.tail (Has.tail (Has.tail Has.head)))))) rfl rfl) (fun wz hw => ?_)
          -- mq: done
          exact ⟨by rw [hro, fileS, hfi]; rfl, hE _ hw.ext⟩
      · skip
        rw [if_neg h3] at hro
        refine CW.seq (CW.region ?_)
        refine RW.eqlS rfl rfl rfl ?_
        refine RW.assign rfl rfl ?_
        refine RW.nil (EX.seq ?_)
        -- mq: cond
        first | refine CW.condD rfl (fun h4 => ?_) (fun h4 => ?_) | refine CW.cond rfl (fun h4 => ?_) (fun h4 => ?_)
        · skip
          rw [if_pos h4] at hro
          refine CW.seq (CW.seq (CW.region ?_))
          refine RW.fieldB fl36x1 rfl rfl ?_
          refine RW.loadB1 sc9 rfl rfl (by first | exact Has.head | exact Has.tail Has.head | exact Has.tail (Has.tail Has.head) | exact Has.tail (Has.tail (Has.tail Has.head)) | exact Has.tail (Has.tail (Has.tail (Has.tail Has.head))) | exact Has.tail (Has.tail (Has.tail (Has.tail (Has.tail Has.head)))) | exact Has.tail (Has.tail (Has.tail (Has.tail (Has.tail (Has.tail Has.head)))))) rfl ?_
          refine RW.eqlS rfl rfl rfl ?_
          refine RW.nil (EX.seq ?_)
          -- mq: cond
          first | refine CW.condD rfl (fun h5 => ?_) (fun h5 => ?_) | refine CW.cond rfl (fun h5 => ?_) (fun h5 => ?_)
          · skip
            refine CW.seq (CW.region ?_)
            refine RW.buildS bu24 rfl rfl rfl ?_
            refine RW.storeA ag24 rfl rfl (by first | exact Upd.head | exact Upd.tail Upd.head | exact Upd.tail (Upd.tail Upd.head) | exact Upd.tail (Upd.tail (Upd.tail Upd.head)) | exact Upd.tail (Upd.tail (Upd.tail (Upd.tail Upd.head))) | exact Upd.tail (Upd.tail (Upd.tail (Upd.tail (Upd.tail Upd.head)))) | exact Upd.tail (Upd.tail (Upd.tail (Upd.tail (Upd.tail (Upd.tail Upd.head)))))) (by first | rfl | exact Enc.len _ _) (by repeat (first | exact Ones.nil | exact Enc.ones _ _ | refine Ones.cons rfl ?_)) (by first | exact Nat.le_of_ble_eq_true rfl | (simp only [Enc.len]; decide)) ?_
            refine RW.nil (EX.seq (CW.ret (EX.seqR (EX.bkR (EX.seqR ?_)))))
            refine EX.fin1' Tryd.results10 (RV.cellA ag24 rfl (by first | exact Has.head | exact Has.tail Has.head | exact Has.tail (Has.tail Has.head) | exact Has.tail (Has.tail (Has.tail Has.head)) | exact Has.tail (Has.tail (Has.tail (Has.tail Has.head))) | exact Has.tail (Has.tail (Has.tail (Has.tail (Has.tail Has.head)))) | exact Has.tail (Has.tail (Has.tail (Has.tail (Has.tail (Has.tail Has.head)))))) rfl rfl) (fun wz hw => ?_)
            -- mq: done
            exact ⟨by rw [hro, setS, if_pos (show rest = setL from h5)]; rfl, hE _ hw.ext⟩
          · skip
            refine CW.skip (EX.seq (CW.seq (CW.region ?_)))
            refine RW.fieldB fl36x1 rfl rfl ?_
            refine RW.loadB1 sc9 rfl rfl (by first | exact Has.head | exact Has.tail Has.head | exact Has.tail (Has.tail Has.head) | exact Has.tail (Has.tail (Has.tail Has.head)) | exact Has.tail (Has.tail (Has.tail (Has.tail Has.head))) | exact Has.tail (Has.tail (Has.tail (Has.tail (Has.tail Has.head)))) | exact Has.tail (Has.tail (Has.tail (Has.tail (Has.tail (Has.tail Has.head)))))) rfl ?_
            refine RW.call rfl ca25 rfl (fun w' _ => cutPrefix_c w' rest curL (by omega) (by decide)) ?_
            refine RW.move rfl rfl ?_
            refine RW.extract rfl rfl rfl ?_
            refine RW.extract rfl rfl rfl ?_
            refine RW.assign rfl rfl ?_
            refine RW.assign rfl rfl ?_
            refine RW.nil (EX.seq (CW.seq (CW.region ?_)))
            refine RW.move rfl rfl ?_
            refine RW.nil (EX.seq ?_)
            -- mq: cond
            first | refine CW.condD rfl (fun h6 => ?_) (fun h6 => ?_) | refine CW.cond rfl (fun h6 => ?_) (fun h6 => ?_)
            · skip
              rw [show (if rest.take curL.length = curL then rest.drop curL.length else rest) = rest.drop 11 from if_pos h6]
              refine CW.seq (CW.region ?_)
              refine RW.move rfl rfl ?_
              refine RW.call rfl ca24 rfl (fun w' _ => text_c w' 6 (rest.drop 11) (by rw [List.length_drop]; omega)) ?_
              refine RW.storeA ag24 rfl rfl (by first | exact Upd.head | exact Upd.tail Upd.head | exact Upd.tail (Upd.tail Upd.head) | exact Upd.tail (Upd.tail (Upd.tail Upd.head)) | exact Upd.tail (Upd.tail (Upd.tail (Upd.tail Upd.head))) | exact Upd.tail (Upd.tail (Upd.tail (Upd.tail (Upd.tail Upd.head)))) | exact Upd.tail (Upd.tail (Upd.tail (Upd.tail (Upd.tail (Upd.tail Upd.head)))))) (by first | rfl | exact Enc.len _ _) (by repeat (first | exact Ones.nil | exact Enc.ones _ _ | refine Ones.cons rfl ?_)) (by first | exact Nat.le_of_ble_eq_true rfl | (simp only [Enc.len]; decide)) ?_
              refine RW.nil (EX.seq (CW.ret (EX.bkR (EX.seqR ?_))))
              refine EX.fin1' Tryd.results10 (RV.cellA ag24 rfl (by first | exact Has.head | exact Has.tail Has.head | exact Has.tail (Has.tail Has.head) | exact Has.tail (Has.tail (Has.tail Has.head)) | exact Has.tail (Has.tail (Has.tail (Has.tail Has.head))) | exact Has.tail (Has.tail (Has.tail (Has.tail (Has.tail Has.head)))) | exact Has.tail (Has.tail (Has.tail (Has.tail (Has.tail (Has.tail Has.head)))))) rfl rfl) (fun wz hw => ?_)
              -- mq: done
              exact ⟨by rw [hro, setS, if_neg (show ¬ rest = setL from h5), if_pos (show rest.take 11 = curL from h6)]; rfl, hE _ hw.ext⟩
            · skip
              refine CW.skip (EX.bkN (EX.seq (CW.seq (CW.region ?_))))
              refine RW.buildS bu24 rfl rfl rfl ?_
              refine RW.storeA ag24 rfl rfl (by first | exact Upd.head | exact Upd.tail Upd.head | exact Upd.tail (Upd.tail Upd.head) | exact Upd.tail (Upd.tail (Upd.tail Upd.head)) | exact Upd.tail (Upd.tail (Upd.tail (Upd.tail Upd.head))) | exact Upd.tail (Upd.tail (Upd.tail (Upd.tail (Upd.tail Upd.head)))) | exact Upd.tail (Upd.tail (Upd.tail (Upd.tail (Upd.tail (Upd.tail Upd.head)))))) (by first | rfl | exact Enc.len _ _) (by repeat (first | exact Ones.nil | exact Enc.ones _ _ | refine Ones.cons rfl ?_)) (by first | exact Nat.le_of_ble_eq_true rfl | (simp only [Enc.len]; decide)) ?_
              refine RW.nil (EX.seq (CW.ret ?_))
              refine EX.fin1' Tryd.results10 (RV.cellA ag24 rfl (by first | exact Has.head | exact Has.tail Has.head | exact Has.tail (Has.tail Has.head) | exact Has.tail (Has.tail (Has.tail Has.head)) | exact Has.tail (Has.tail (Has.tail (Has.tail Has.head))) | exact Has.tail (Has.tail (Has.tail (Has.tail (Has.tail Has.head)))) | exact Has.tail (Has.tail (Has.tail (Has.tail (Has.tail (Has.tail Has.head)))))) rfl rfl) (fun wz hw => ?_)
              -- mq: done
              exact ⟨by rw [hro, setS, if_neg (show ¬ rest = setL from h5), if_neg (show ¬ rest.take 11 = curL from h6)]; rfl, hE _ hw.ext⟩
        · skip
          rw [if_neg h4] at hro
          refine CW.seq (CW.seq (CW.region ?_))
          refine RW.eqlS rfl rfl rfl ?_
          refine RW.assign rfl rfl ?_
          refine RW.nil (EX.seq ?_)
          -- mq: cond
          first | refine CW.condD rfl (fun h7 => ?_) (fun h7 => ?_) | refine CW.cond rfl (fun h7 => ?_) (fun h7 => ?_)
          · skip
            refine CW.skip (EX.seq ?_)
            -- mq: cond
            refine CW.condT rfl ((decide_eq_true h7)) ?_
            refine CW.seq (CW.region ?_)
            refine RW.fieldB fl36x2 rfl rfl ?_
            refine RW.loadB1 sc4 rfl rfl (by first | exact Has.head | exact Has.tail Has.head | exact Has.tail (Has.tail Has.head) | exact Has.tail (Has.tail (Has.tail Has.head)) | exact Has.tail (Has.tail (Has.tail (Has.tail Has.head))) | exact Has.tail (Has.tail (Has.tail (Has.tail (Has.tail Has.head)))) | exact Has.tail (Has.tail (Has.tail (Has.tail (Has.tail (Has.tail Has.head)))))) rfl ?_
            refine RW.nil (EX.seq ?_)
            -- mq: cond
            first | refine CW.condD rfl (fun h8 => ?_) (fun h8 => ?_) | refine CW.cond rfl (fun h8 => ?_) (fun h8 => ?_)
            · skip
              refine CW.seq (CW.region ?_)
              refine RW.fieldB fl36x1 rfl rfl ?_
              refine RW.loadB1 sc9 rfl rfl (by first | exact Has.head | exact Has.tail Has.head | exact Has.tail (Has.tail Has.head) | exact Has.tail (Has.tail (Has.tail Has.head)) | exact Has.tail (Has.tail (Has.tail (Has.tail Has.head))) | exact Has.tail (Has.tail (Has.tail (Has.tail (Has.tail Has.head)))) | exact Has.tail (Has.tail (Has.tail (Has.tail (Has.tail (Has.tail Has.head)))))) rfl ?_
              refine RW.call rfl ca24 rfl (fun w' _ => text_c w' 8 rest (by omega)) ?_
              refine RW.storeA ag24 rfl rfl (by first | exact Upd.head | exact Upd.tail Upd.head | exact Upd.tail (Upd.tail Upd.head) | exact Upd.tail (Upd.tail (Upd.tail Upd.head)) | exact Upd.tail (Upd.tail (Upd.tail (Upd.tail Upd.head))) | exact Upd.tail (Upd.tail (Upd.tail (Upd.tail (Upd.tail Upd.head)))) | exact Upd.tail (Upd.tail (Upd.tail (Upd.tail (Upd.tail (Upd.tail Upd.head)))))) (by first | rfl | exact Enc.len _ _) (by repeat (first | exact Ones.nil | exact Enc.ones _ _ | refine Ones.cons rfl ?_)) (by first | exact Nat.le_of_ble_eq_true rfl | (simp only [Enc.len]; decide)) ?_
              refine RW.nil (EX.seq (CW.ret (EX.bkR (EX.seqR ?_))))
              refine EX.fin1' Tryd.results10 (RV.cellA ag24 rfl (by first | exact Has.head | exact Has.tail Has.head | exact Has.tail (Has.tail Has.head) | exact Has.tail (Has.tail (Has.tail Has.head)) | exact Has.tail (Has.tail (Has.tail (Has.tail Has.head))) | exact Has.tail (Has.tail (Has.tail (Has.tail (Has.tail Has.head)))) | exact Has.tail (Has.tail (Has.tail (Has.tail (Has.tail (Has.tail Has.head)))))) rfl rfl) (fun wz hw => ?_)
              -- mq: done
              exact ⟨by rw [hro, if_pos ⟨.inl h7, h8⟩]; rfl, hE _ hw.ext⟩
            · skip
              refine CW.skip (EX.bkN (EX.seq (CW.seq (CW.region ?_))))
              refine RW.buildS bu24 rfl rfl rfl ?_
              refine RW.storeA ag24 rfl rfl (by first | exact Upd.head | exact Upd.tail Upd.head | exact Upd.tail (Upd.tail Upd.head) | exact Upd.tail (Upd.tail (Upd.tail Upd.head)) | exact Upd.tail (Upd.tail (Upd.tail (Upd.tail Upd.head))) | exact Upd.tail (Upd.tail (Upd.tail (Upd.tail (Upd.tail Upd.head)))) | exact Upd.tail (Upd.tail (Upd.tail (Upd.tail (Upd.tail (Upd.tail Upd.head)))))) (by first | rfl | exact Enc.len _ _) (by repeat (first | exact Ones.nil | exact Enc.ones _ _ | refine Ones.cons rfl ?_)) (by first | exact Nat.le_of_ble_eq_true rfl | (simp only [Enc.len]; decide)) ?_
              refine RW.nil (EX.seq (CW.ret ?_))
              refine EX.fin1' Tryd.results10 (RV.cellA ag24 rfl (by first | exact Has.head | exact Has.tail Has.head | exact Has.tail (Has.tail Has.head) | exact Has.tail (Has.tail (Has.tail Has.head)) | exact Has.tail (Has.tail (Has.tail (Has.tail Has.head))) | exact Has.tail (Has.tail (Has.tail (Has.tail (Has.tail Has.head)))) | exact Has.tail (Has.tail (Has.tail (Has.tail (Has.tail (Has.tail Has.head)))))) rfl rfl) (fun wz hw => ?_)
              -- mq: done
              exact ⟨by rw [hro, if_neg (fun h => h8 h.2)]; rfl, hE _ hw.ext⟩
          · skip
            refine CW.region ?_
            refine RW.eqlS rfl rfl rfl ?_
            refine RW.assign rfl rfl ?_
            refine RW.nil (EX.seq ?_)
            -- mq: cond
            first | refine CW.condD rfl (fun h9 => ?_) (fun h9 => ?_) | refine CW.cond rfl (fun h9 => ?_) (fun h9 => ?_)
            · skip
              refine CW.seq (CW.region ?_)
              refine RW.fieldB fl36x2 rfl rfl ?_
              refine RW.loadB1 sc4 rfl rfl (by first | exact Has.head | exact Has.tail Has.head | exact Has.tail (Has.tail Has.head) | exact Has.tail (Has.tail (Has.tail Has.head)) | exact Has.tail (Has.tail (Has.tail (Has.tail Has.head))) | exact Has.tail (Has.tail (Has.tail (Has.tail (Has.tail Has.head)))) | exact Has.tail (Has.tail (Has.tail (Has.tail (Has.tail (Has.tail Has.head)))))) rfl ?_
              refine RW.nil (EX.seq ?_)
              -- mq: cond
              first | refine CW.condD rfl (fun h8 => ?_) (fun h8 => ?_) | refine CW.cond rfl (fun h8 => ?_) (fun h8 => ?_)
              · skip
                refine CW.seq (CW.region ?_)
                refine RW.fieldB fl36x1 rfl rfl ?_
                refine RW.loadB1 sc9 rfl rfl (by first | exact Has.head | exact Has.tail Has.head | exact Has.tail (Has.tail Has.head) | exact Has.tail (Has.tail (Has.tail Has.head)) | exact Has.tail (Has.tail (Has.tail (Has.tail Has.head))) | exact Has.tail (Has.tail (Has.tail (Has.tail (Has.tail Has.head)))) | exact Has.tail (Has.tail (Has.tail (Has.tail (Has.tail (Has.tail Has.head)))))) rfl ?_
                refine RW.call rfl ca24 rfl (fun w' _ => text_c w' 8 rest (by omega)) ?_
                refine RW.storeA ag24 rfl rfl (by first | exact Upd.head | exact Upd.tail Upd.head | exact Upd.tail (Upd.tail Upd.head) | exact Upd.tail (Upd.tail (Upd.tail Upd.head)) | exact Upd.tail (Upd.tail (Upd.tail (Upd.tail Upd.head))) | exact Upd.tail (Upd.tail (Upd.tail (Upd.tail (Upd.tail Upd.head)))) | exact Upd.tail (Upd.tail (Upd.tail (Upd.tail (Upd.tail (Upd.tail Upd.head)))))) (by first | rfl | exact Enc.len _ _) (by repeat (first | exact Ones.nil | exact Enc.ones _ _ | refine Ones.cons rfl ?_)) (by first | exact Nat.le_of_ble_eq_true rfl | (simp only [Enc.len]; decide)) ?_
                refine RW.nil (EX.seq (CW.ret (EX.bkR (EX.seqR ?_))))
                refine EX.fin1' Tryd.results10 (RV.cellA ag24 rfl (by first | exact Has.head | exact Has.tail Has.head | exact Has.tail (Has.tail Has.head) | exact Has.tail (Has.tail (Has.tail Has.head)) | exact Has.tail (Has.tail (Has.tail (Has.tail Has.head))) | exact Has.tail (Has.tail (Has.tail (Has.tail (Has.tail Has.head)))) | exact Has.tail (Has.tail (Has.tail (Has.tail (Has.tail (Has.tail Has.head)))))) rfl rfl) (fun wz hw => ?_)
                -- mq: done
                exact ⟨by rw [hro, if_pos ⟨.inr h9, h8⟩]; rfl, hE _ hw.ext⟩
              · skip
                refine CW.skip (EX.bkN (EX.seq (CW.seq (CW.region ?_))))
                refine RW.buildS bu24 rfl rfl rfl ?_
                refine RW.storeA ag24 rfl rfl (by first | exact Upd.head | exact Upd.tail Upd.head | exact Upd.tail (Upd.tail Upd.head) | exact Upd.tail (Upd.tail (Upd.tail Upd.head)) | exact Upd.tail (Upd.tail (Upd.tail (Upd.tail Upd.head))) | exact Upd.tail (Upd.tail (Upd.tail (Upd.tail (Upd.tail Upd.head)))) | exact Upd.tail (Upd.tail (Upd.tail (Upd.tail (Upd.tail (Upd.tail Upd.head)))))) (by first | rfl | exact Enc.len _ _) (by repeat (first | exact Ones.nil | exact Enc.ones _ _ | refine Ones.cons rfl ?_)) (by first | exact Nat.le_of_ble_eq_true rfl | (simp only [Enc.len]; decide)) ?_
                refine RW.nil (EX.seq (CW.ret ?_))
                refine EX.fin1' Tryd.results10 (RV.cellA ag24 rfl (by first | exact Has.head | exact Has.tail Has.head | exact Has.tail (Has.tail Has.head) | exact Has.tail (Has.tail (Has.tail Has.head)) | exact Has.tail (Has.tail (Has.tail (Has.tail Has.head))) | exact Has.tail (Has.tail (Has.tail (Has.tail (Has.tail Has.head)))) | exact Has.tail (Has.tail (Has.tail (Has.tail (Has.tail (Has.tail Has.head)))))) rfl rfl) (fun wz hw => ?_)
                -- mq: done
                exact ⟨by rw [hro, if_neg (fun h => h8 h.2)]; rfl, hE _ hw.ext⟩
            · skip
              refine CW.skip (EX.bkN (EX.seq (CW.seq (CW.region ?_))))
              refine RW.buildS bu24 rfl rfl rfl ?_
              refine RW.storeA ag24 rfl rfl (by first | exact Upd.head | exact Upd.tail Upd.head | exact Upd.tail (Upd.tail Upd.head) | exact Upd.tail (Upd.tail (Upd.tail Upd.head)) | exact Upd.tail (Upd.tail (Upd.tail (Upd.tail Upd.head))) | exact Upd.tail (Upd.tail (Upd.tail (Upd.tail (Upd.tail Upd.head)))) | exact Upd.tail (Upd.tail (Upd.tail (Upd.tail (Upd.tail (Upd.tail Upd.head)))))) (by first | rfl | exact Enc.len _ _) (by repeat (first | exact Ones.nil | exact Enc.ones _ _ | refine Ones.cons rfl ?_)) (by first | exact Nat.le_of_ble_eq_true rfl | (simp only [Enc.len]; decide)) ?_
              refine RW.nil (EX.seq (CW.ret ?_))
              refine EX.fin1' Tryd.results10 (RV.cellA ag24 rfl (by first | exact Has.head | exact Has.tail Has.head | exact Has.tail (Has.tail Has.head) | exact Has.tail (Has.tail (Has.tail Has.head)) | exact Has.tail (Has.tail (Has.tail (Has.tail Has.head))) | exact Has.tail (Has.tail (Has.tail (Has.tail (Has.tail Has.head)))) | exact Has.tail (Has.tail (Has.tail (Has.tail (Has.tail (Has.tail Has.head)))))) rfl rfl) (fun wz hw => ?_)
              -- mq: done
              exact ⟨by rw [hro, if_neg (fun h => h.1.elim h7 h9)]; rfl, hE _ hw.ext⟩
theorem itoa_le {n : Int} (h : -9223372036854775808 ≤ n ∧ n ≤ 9223372036854775807) : (Lib.itoa n).length ≤ 22 := by
  have hd : ∀ u : Nat, u ≤ 9223372036854775808 → (Lib.decDigits u).length ≤ 19 := fun u hu => dec_len (k := 18) (by omega)
  by_cases h0 : n < 0
  · rw [itoa_lt h0, List.length_cons]
    have := hd n.natAbs (by omega)
    omega
  · rw [itoa_pos (by omega)]
    have := hd n.toNat (by omega)
    omega
/-- what a sign's numbers may be -/
def SgV.Wf (x : SgV) : Prop := In64 x.kind ∧ In64 x.code
set_option maxHeartbeats 1000000 in
theorem Write_c (w : World) (hg : GO w) (x : SgV) (hx : x.Wf) (ht : x.text.length ≤ 1000000) :
    Calls Tryd.prog 18 [.agg x.cells.toArray].toArray w (fun e w' => e = .returned (.string (bs (writeO x))) ∧ Ext [] w w') := by
  have hcode : -9223372036854775808 ≤ x.code ∧ x.code ≤ 9223372036854775807 := hx.2
  obtain ⟨k, code, has, text⟩ := x
  dsimp only at ht hcode
  have hel := escF_len text
  have hil := itoa_le hcode
  have hwo : writeO ⟨k, code, has, text⟩ = if k = 1 then [49, 51, 51, 59, 65] else if k = 2 then [49, 51, 51, 59, 66] else if k = 3 then [49, 51, 51, 59, 67] else if k = 4 then (if has = true then doneL ++ (59 :: Lib.itoa code) else doneL) else if k = 5 then [54, 51, 51, 59, 69, 59] ++ escF text else if k = 6 then [54, 51, 51, 59, 80, 59, 67, 119, 100, 61] ++ escF text else if k = 7 then [49, 51, 51, 55, 59] ++ setL else if k = 8 then [50, 59] ++ text else [] := rfl
  refine calls (n := 38) Tryd.func18 rfl Tryd.ntmps18 rfl ?_
  refine CW.sub (H' := SH w [] []) ?_ (Sub.refl _) (fun x hx => SH.start' _ _ hx)
  refine CW.seq (CW.region ?_)
  refine RW.boxA rfl rfl (fun g1 hg1 hf1 => ?_)
  refine RW.assign rfl rfl ?_
  refine RW.nil (EX.seq (CW.seq (CW.seq ?_)))
  -- mq: region
  refine CW.region ?_
  refine RW.fieldB fl24x0 rfl rfl ?_
  refine RW.loadB1 sc3 rfl rfl (by first | exact Has.head | exact Has.tail Has.head | exact Has.tail (Has.tail Has.head) | exact Has.tail (Has.tail (Has.tail Has.head)) | exact Has.tail (Has.tail (Has.tail (Has.tail Has.head))) | exact Has.tail (Has.tail (Has.tail (Has.tail (Has.tail Has.head)))) | exact Has.tail (Has.tail (Has.tail (Has.tail (Has.tail (Has.tail Has.head)))))) rfl ?_
  refine RW.nil (EX.seq (CW.block (CW.seq (CW.region ?_))))
  refine RW.eqlI rfl rfl rfl ?_
  refine RW.assign rfl rfl ?_
  refine RW.nil (EX.seq ?_)
  -- mq: cond
  first | refine CW.condD rfl (fun h1 => ?_) (fun h1 => ?_) | refine CW.cond rfl (fun h1 => ?_) (fun h1 => ?_)
  · skip
    refine CW.seq (CW.region ?_)
    refine RW.assign rfl rfl ?_
    refine RW.nil (EX.seq (CW.ret (EX.bkR (EX.seqR ?_))))
    refine EX.fin1 Tryd.results18 rfl (fun wz hw => ?_)
    -- mq: done
    exact ⟨by rw [hwo, if_pos h1] <;> rfl, hw.ext⟩
  · skip
    rw [if_neg h1] at hwo
    refine CW.seq (CW.region ?_)
    refine RW.eqlI rfl rfl rfl ?_
    refine RW.assign rfl rfl ?_
    refine RW.nil (EX.seq ?_)
    -- mq: cond
    first | refine CW.condD rfl (fun h2 => ?_) (fun h2 => ?_) | refine CW.cond rfl (fun h2 => ?_) (fun h2 => ?_)
    · skip
      refine CW.seq (CW.region ?_)
      refine RW.assign rfl rfl ?_
      refine RW.nil (EX.seq (CW.ret (EX.bkR (EX.seqR ?_))))
      refine EX.fin1 Tryd.results18 rfl (fun wz hw => ?_)
      -- mq: done
      exact ⟨by rw [hwo, if_pos h2] <;> rfl, hw.ext⟩
    · skip
      rw [if_neg h2] at hwo
      refine CW.seq (CW.region ?_)
      refine RW.eqlI rfl rfl rfl ?_
      refine RW.assign rfl rfl ?_
      refine RW.nil (EX.seq ?_)
      -- mq: cond
      first | refine CW.condD rfl (fun h3 => ?_) (fun h3 => ?_) | refine CW.cond rfl (fun h3 => ?_) (fun h3 => ?_)
      · skip
        refine CW.seq (CW.region ?_)
        refine RW.assign rfl rfl ?_
        refine RW.nil (EX.seq (CW.ret (EX.bkR (EX.seqR ?_))))
        refine EX.fin1 Tryd.results18 rfl (fun wz hw => ?_)
        -- mq: done
        exact ⟨by rw [hwo, if_pos h3] <;> rfl, hw.ext⟩
      · skip
        rw [if_neg h3] at hwo
        refine CW.seq (CW.region ?_)
        refine RW.eqlI rfl rfl rfl ?_
        refine RW.assign rfl rfl ?_
        refine RW.nil (EX.seq ?_)
        -- mq: cond
        first | refine CW.condD rfl (fun h4 => ?_) (fun h4 => ?_) | refine CW.cond rfl (fun h4 => ?_) (fun h4 => ?_)
        · skip
          rw [if_pos h4] at hwo
          refine CW.seq (CW.seq (CW.region ?_))
          refine RW.fieldB fl24x2 rfl rfl ?_
          refine RW.loadB1 sc4 rfl rfl (by first | exact Has.head | exact Has.tail Has.head | exact Has.tail (Has.tail Has.head) | exact Has.tail (Has.tail (Has.tail Has.head)) | exact Has.tail (Has.tail (Has.tail (Has.tail Has.head))) | exact Has.tail (Has.tail (Has.tail (Has.tail (Has.tail Has.head)))) | exact Has.tail (Has.tail (Has.tail (Has.tail (Has.tail (Has.tail Has.head)))))) rfl ?_
          refine RW.nil (EX.seq ?_)
          -- mq: cond
          first | refine CW.condD rfl (fun h5 => ?_) (fun h5 => ?_) | refine CW.cond rfl (fun h5 => ?_) (fun h5 => ?_)
          · skip
            refine CW.seq (CW.region ?_)
            refine RW.fieldB fl24x1 rfl rfl ?_
            refine RW.loadB1 sc3 rfl rfl (by first | exact Has.head | exact Has.tail Has.head | exact Has.tail (Has.tail Has.head) | exact Has.tail (Has.tail (Has.tail Has.head)) | exact Has.tail (Has.tail (Has.tail (Has.tail Has.head))) | exact Has.tail (Has.tail (Has.tail (Has.tail (Has.tail Has.head)))) | exact Has.tail (Has.tail (Has.tail (Has.tail (Has.tail (Has.tail Has.head)))))) rfl ?_
            refine RW.call rfl ca37 rfl (fun w' hw' => itoa_c w' (hg.ext hw'.ext).l code hcode) ?_
            refine RW.catS rfl rfl rfl (by first | omega | (simp only [List.length_append, List.length_cons, List.length_nil]; omega)) ?_
            refine RW.assign rfl rfl ?_
            refine RW.nil (EX.seq (CW.ret (EX.seqR (EX.bkR (EX.seqR ?_)))))
            refine EX.fin1 Tryd.results18 rfl (fun wz hw => ?_)
            -- mq: done
            exact ⟨by rw [hwo, if_pos h5] <;> rfl, hw.ext⟩
          · skip
            refine CW.skip (EX.seq (CW.seq (CW.region ?_)))
            refine RW.assign rfl rfl ?_
            refine RW.nil (EX.seq (CW.ret (EX.bkR (EX.seqR ?_))))
            refine EX.fin1 Tryd.results18 rfl (fun wz hw => ?_)
            -- mq: done
            exact ⟨by rw [hwo, if_neg (by rw [show has = false from h5]; decide)] <;> rfl, hw.ext⟩
        · skip
          rw [if_neg h4] at hwo
          refine CW.seq (CW.region ?_)
          refine RW.eqlI rfl rfl rfl ?_
          refine RW.assign rfl rfl ?_
          refine RW.nil (EX.seq ?_)
          -- mq: cond
          first | refine CW.condD rfl (fun h6 => ?_) (fun h6 => ?_) | refine CW.cond rfl (fun h6 => ?_) (fun h6 => ?_)
          · skip
            rw [if_pos h6] at hwo
            refine CW.seq (CW.region ?_)
            refine RW.fieldB fl24x3 rfl rfl ?_
            refine RW.loadB1 sc9 rfl rfl (by first | exact Has.head | exact Has.tail Has.head | exact Has.tail (Has.tail Has.head) | exact Has.tail (Has.tail (Has.tail Has.head)) | exact Has.tail (Has.tail (Has.tail (Has.tail Has.head))) | exact Has.tail (Has.tail (Has.tail (Has.tail (Has.tail Has.head)))) | exact Has.tail (Has.tail (Has.tail (Has.tail (Has.tail (Has.tail Has.head)))))) rfl ?_
            refine RW.call rfl ca14 rfl (fun w' _ => Escape_c w' text ht) ?_
            refine RW.catS rfl rfl rfl (by first | omega | (simp only [List.length_append, List.length_cons, List.length_nil]; omega)) ?_
            refine RW.assign rfl rfl ?_
            refine RW.nil (EX.seq (CW.ret (EX.bkR (EX.seqR ?_))))
            refine EX.fin1 Tryd.results18 rfl (fun wz hw => ?_)
            -- mq: done
            exact ⟨by rw [hwo] <;> rfl, hw.ext⟩
          · skip
            rw [if_neg h6] at hwo
            refine CW.seq (CW.region ?_)
            refine RW.eqlI rfl rfl rfl ?_
            refine RW.assign rfl rfl ?_
            refine RW.nil (EX.seq ?_)
            -- mq: cond
            first | refine CW.condD rfl (fun h7 => ?_) (fun h7 => ?_) | refine CW.cond rfl (fun h7 => ?_) (fun h7 => ?_)
            · skip
              rw [if_pos h7] at hwo
              refine CW.seq (CW.region ?_)
              refine RW.fieldB fl24x3 rfl rfl ?_
              refine RW.loadB1 sc9 rfl rfl (by first | exact Has.head | exact Has.tail Has.head | exact Has.tail (Has.tail Has.head) | exact Has.tail (Has.tail (Has.tail Has.head)) | exact Has.tail (Has.tail (Has.tail (Has.tail Has.head))) | exact Has.tail (Has.tail (Has.tail (Has.tail (Has.tail Has.head)))) | exact Has.tail (Has.tail (Has.tail (Has.tail (Has.tail (Has.tail Has.head)))))) rfl ?_
              refine RW.call rfl ca14 rfl (fun w' _ => Escape_c w' text ht) ?_
              refine RW.catS rfl rfl rfl (by first | omega | (simp only [List.length_append, List.length_cons, List.length_nil]; omega)) ?_
              refine RW.assign rfl rfl ?_
              refine RW.nil (EX.seq (CW.ret (EX.bkR (EX.seqR ?_))))
              refine EX.fin1 Tryd.results18 rfl (fun wz hw => ?_)
              -- mq: done
              exact ⟨by rw [hwo] <;> rfl, hw.ext⟩
            · skip
              rw [if_neg h7] at hwo
              refine CW.seq (CW.region ?_)
              refine RW.eqlI rfl rfl rfl ?_
              refine RW.assign rfl rfl ?_
              refine RW.nil (EX.seq ?_)
              -- mq: cond
              first | refine CW.condD rfl (fun h8 => ?_) (fun h8 => ?_) | refine CW.cond rfl (fun h8 => ?_) (fun h8 => ?_)
              · skip
                refine CW.seq (CW.region ?_)
                refine RW.assign rfl rfl ?_
                refine RW.nil (EX.seq (CW.ret (EX.bkR (EX.seqR ?_))))
                refine EX.fin1 Tryd.results18 rfl (fun wz hw => ?_)
                -- mq: done
                exact ⟨by rw [hwo, if_pos h8] <;> rfl, hw.ext⟩
              · skip
                rw [if_neg h8] at hwo
                refine CW.seq (CW.region ?_)
                refine RW.eqlI rfl rfl rfl ?_
                refine RW.assign rfl rfl ?_
                refine RW.nil (EX.seq ?_)
                -- mq: cond
                first | refine CW.condD rfl (fun h9 => ?_) (fun h9 => ?_) | refine CW.cond rfl (fun h9 => ?_) (fun h9 => ?_)
                · skip
                  refine CW.seq (CW.region ?_)
                  refine RW.fieldB fl24x3 rfl rfl ?_
                  refine RW.loadB1 sc9 rfl rfl (by first | exact Has.head | exact Has.tail Has.head | exact Has.tail (Has.tail Has.head) | exact Has.tail (Has.tail (Has.tail Has.head)) | exact Has.tail (Has.tail (Has.tail (Has.tail Has.head))) | exact Has.tail (Has.tail (Has.tail (Has.tail (Has.tail Has.head)))) | exact Has.tail (Has.tail (Has.tail (Has.tail (Has.tail (Has.tail Has.head)))))) rfl ?_
                  refine RW.catS rfl rfl rfl (by first | omega | (simp only [List.length_append, List.length_cons, List.length_nil]; omega)) ?_
                  refine RW.assign rfl rfl ?_
                  refine RW.nil (EX.seq (CW.ret (EX.bkR (EX.seqR ?_))))
                  refine EX.fin1 Tryd.results18 rfl (fun wz hw => ?_)
                  -- mq: done
                  exact ⟨by rw [hwo, if_pos h9] <;> rfl, hw.ext⟩
                · skip
                  refine CW.skip (EX.bkN (EX.seq (CW.seq (CW.region ?_))))
                  refine RW.assign rfl rfl ?_
                  refine RW.nil (EX.seq (CW.ret ?_))
                  refine EX.fin1 Tryd.results18 rfl (fun wz hw => ?_)
                  -- mq: done
                  exact ⟨by rw [hwo, if_neg h9] <;> rfl, hw.ext⟩
end Go.Proofs.YtemcblinkicblaaDoor.Mq
