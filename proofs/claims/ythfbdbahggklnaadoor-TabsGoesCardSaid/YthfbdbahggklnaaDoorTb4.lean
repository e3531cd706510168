/- tabs: walks of Size, New -/
import Derived.Test.YthfbdbahggklnaaDoorTb3
namespace Go.Proofs.YthfbdbahggklnaaDoor.Mq
open Go Go.RowKit Go.Proofs

def clB (bs : List Bool) (n x : Nat) : List Bool := (List.range bs.length).map (fun y => if n ≤ y ∧ y < x then false else gb bs y)
theorem clB_len (bs : List Bool) (n x : Nat) : (clB bs n x).length = bs.length := by simp [clB]
theorem gb_clB (bs : List Bool) (n x y : Nat) (hy : y < bs.length) : gb (clB bs n x) y = if n ≤ y ∧ y < x then false else gb bs y := by
  unfold clB
  rw [gb, List.getD_eq_getElem?_getD, List.getElem?_map, List.getElem?_range hy]; rfl
theorem clB_start (bs : List Bool) (n : Nat) : clB bs n n = bs := by
  refine bs_ext (clB_len _ _ _) fun y hy => ?_
  rw [clB_len] at hy
  rw [gb_clB _ _ _ _ hy, if_neg (by omega)]
theorem clB_step {bs : List Bool} {n x : Nat} (h1 : n ≤ x) (h2 : x < bs.length) : withB (clB bs n x) (x : Int) false = clB bs n (x + 1) := by
  refine bs_ext (by rw [withB_len, clB_len, clB_len]) fun y hy => ?_
  rw [withB_len, clB_len] at hy
  rw [gb_withB _ _ _ _ (by rw [clB_len]; exact hy), gb_clB _ _ _ _ hy, gb_clB _ _ _ _ hy]
  by_cases e : x = y
  · subst e; rw [if_pos rfl, if_pos (by omega)]
  · rw [if_neg (by omega)]
    by_cases h3 : n ≤ y ∧ y < x
    · rw [if_pos h3, if_pos (by omega)]
    · rw [if_neg h3, if_neg (by omega)]
def grB (bs : List Bool) (n x : Nat) : List Bool := (List.range n).map (fun y => if y < bs.length then gb bs y else decide (y < x) && decide (y % 8 = 0))
theorem grB_len (bs : List Bool) (n x : Nat) : (grB bs n x).length = n := by simp [grB]
theorem gb_grB (bs : List Bool) (n x y : Nat) (hy : y < n) : gb (grB bs n x) y = if y < bs.length then gb bs y else decide (y < x) && decide (y % 8 = 0) := by
  unfold grB
  rw [gb, List.getD_eq_getElem?_getD, List.getElem?_map, List.getElem?_range hy]; rfl
theorem grB_step {bs : List Bool} {n x : Nat} (h1 : bs.length ≤ x) (h2 : x < n) : grB bs n (x + 1) = if x % 8 = 0 then withB (grB bs n x) (x : Int) true else grB bs n x := by
  split
  · rename_i h8
    refine bs_ext (by rw [withB_len, grB_len, grB_len]) fun y hy => ?_
    rw [grB_len] at hy
    rw [gb_withB _ _ _ _ (by rw [grB_len]; exact hy), gb_grB _ _ _ _ hy, gb_grB _ _ _ _ hy]
    by_cases e : x = y
    · subst e; rw [if_pos rfl, if_neg (by omega)]; simp [h8]
    · rw [if_neg (show ¬ (x : Int) = (y : Int) by omega), show decide (y < x + 1) = decide (y < x) from decide_eq_decide.2 (by omega)]
  · rename_i h8
    refine bs_ext (by rw [grB_len, grB_len]) fun y hy => ?_
    rw [grB_len] at hy
    rw [gb_grB _ _ _ _ hy, gb_grB _ _ _ _ hy]
    by_cases e : x = y
    · subst e; rw [if_neg (by omega), if_neg (by omega)]; simp [h8]
    · rw [show decide (y < x + 1) = decide (y < x) from decide_eq_decide.2 (by omega)]
theorem grB_end {bs : List Bool} {n x : Nat} (h1 : n ≤ x) : grB bs n x = sizeB bs n := by
  refine bs_ext (by rw [grB_len, sizeB_len]) fun y hy => ?_
  rw [grB_len] at hy
  rw [gb_grB _ _ _ _ hy, gb_sizeB _ _ _ hy, show decide (y < x) = true from decide_eq_true (by omega)]
  simp
/-- cut, or grown: the bits as they stand -/
theorem rp_mid {ws : List Nat} {bs : List Bool} {n x : Nat} (h : Rp ws (clB bs n x)) (hx : bs.length ≤ x) (hn : n ≤ 64 * ws.length) : Rp ws (grB bs n bs.length) := by
  have h1 := h.cut n hn (fun y hy => by
    rcases Nat.lt_or_ge y bs.length with h2 | h2
    · rw [gb_clB _ _ _ _ h2, if_pos (by omega)]
    · exact gb_ge (by rw [clB_len]; exact h2))
  have e : (List.range n).map (gb (clB bs n x)) = grB bs n bs.length := by
    refine bs_ext (by simp [grB]) fun y hy => ?_
    have hy' : y < n := by simpa using hy
    rw [gb_grB _ _ _ _ hy', gb, List.getD_eq_getElem?_getD, List.getElem?_map, List.getElem?_range hy']
    show gb (clB bs n x) y = _
    rcases Nat.lt_or_ge y bs.length with h2 | h2
    · rw [gb_clB _ _ _ _ h2, if_neg (by omega), if_pos h2]
    · rw [gb_ge (by rw [clB_len]; exact h2), if_neg (by omega), decide_eq_false (by omega)]; rfl
  exact e ▸ h1
theorem size_err (w : World) (v : Option Addr) (n : Int) (h : v = none ∨ ¬ (2 ≤ n ∧ n ≤ 1000)) : Calls Tryd.prog 17 [.pointer v, .int .i64 n].toArray w (fun e w' => e = .returned (.int .i64 1) ∧ Ext [] w w') := by
  refine calls (n := 61) Tryd.func17 rfl Tryd.ntmps17 rfl ?_
  refine CW.sub (H' := SH w [] []) ?_ (Sub.refl _) (fun x hx => SH.start' _ _ hx)
  refine CW.seq (CW.region ?_)
  refine RW.assign rfl rfl ?_
  refine RW.nil (EX.seq (CW.seq (CW.seq (CW.region ?_))))
  refine RW.move rfl rfl ?_
  refine RW.eqlP Tryd.underlying25 rfl rfl rfl ?_
  refine RW.move rfl rfl ?_
  -- mq: guard slot 10
  refine RW.casesB 10 rfl (fun h0 => ?_) (fun h0 => ?_)
  · skip
    refine RW.guardF rfl rfl rfl h0 ?_
    refine RW.guardF rfl rfl rfl h0 ?_
    refine RW.guardF rfl rfl rfl h0 ?_
    refine RW.pickB rfl rfl h0 rfl ?_
    refine RW.nil (EX.seq ?_)
    -- mq: cond
    refine CW.condT rfl (rfl) ?_
    refine CW.seq (CW.region ?_)
    refine RW.assign rfl rfl ?_
    refine RW.nil (EX.seq (CW.ret (EX.seqR ?_)))
    refine EX.fin1 Tryd.results17 rfl (fun wz hw => ?_)
    -- mq: done
    exact ⟨rfl, hw.ext⟩
  · skip
    have hn : ¬ (2 ≤ n ∧ n ≤ 1000) := by
      rcases h with rfl | h
      · cases h0
      · exact h
    refine RW.guardT rfl rfl h0 ?_
    refine RW.move rfl rfl ?_
    refine RW.guardT rfl rfl h0 ?_
    refine RW.call rfl ca25 rfl (fun w' hw' => fits_c w' n) ?_
    refine RW.guardT rfl rfl h0 ?_
    refine RW.not_ rfl rfl ?_
    refine RW.pickC rfl rfl h0 rfl ?_
    refine RW.nil (EX.seq ?_)
    -- mq: cond
    refine CW.condT rfl ((by rw [decide_eq_false hn]; rfl)) ?_
    refine CW.seq (CW.region ?_)
    refine RW.assign rfl rfl ?_
    refine RW.nil (EX.seq (CW.ret (EX.seqR ?_)))
    refine EX.fin1 Tryd.results17 rfl (fun wz hw => ?_)
    -- mq: done
    exact ⟨rfl, hw.ext⟩
theorem size_c (w : World) (g : Nat) (bs : List Bool) (i : SI) (ho : Okk bs i) (h : (stp g bs.length i).pred w) (hn : (stp g bs.length i).foot.Nodup) (n : Nat) (h2 : 2 ≤ n ∧ n ≤ 1000) :
    Calls Tryd.prog 17 [ptr g, .int .i64 (n : Int)].toArray w (RetU (fun _ => Value.int .i64 0) (stp g bs.length i) (fun j => stp g n j) (fun j => Okk (sizeB bs n) j) w) := by
  have hle := ho.le
  have hr := RdS.of h ho.len
  refine calls (n := 61) Tryd.func17 rfl Tryd.ntmps17 rfl ?_
  refine CW.sub (H' := SH w (stp g bs.length i).foot [stp g bs.length i]) ?_ (Sub.refl _) (fun x hx => SH.startOf' hx h hn)
  refine CW.seq (CW.region ?_)
  refine RW.assign rfl rfl ?_
  refine RW.nil (EX.seq (CW.seq (CW.seq (CW.region ?_))))
  refine RW.move rfl rfl ?_
  refine RW.eqlP Tryd.underlying25 rfl rfl rfl ?_
  refine RW.move rfl rfl ?_
  -- mq: guard slot 10
  refine RW.guardT rfl rfl rfl ?_
  refine RW.move rfl rfl ?_
  refine RW.guardT rfl rfl rfl ?_
  refine RW.call rfl ca25 rfl (fun w' hw' => fits_c w' n) ?_
  refine RW.guardT rfl rfl rfl ?_
  refine RW.not_ rfl rfl ?_
  refine RW.pickC rfl rfl rfl rfl ?_
  refine RW.nil (EX.seq ?_)
  -- mq: cond
  refine CW.condF rfl ((by rw [decide_eq_true (show 2 ≤ (n : Int) ∧ (n : Int) ≤ 1000 by omega)]; rfl)) ?_
  refine CW.skip (EX.seq (CW.seq (CW.region ?_)))
  refine RW.move rfl rfl ?_
  refine RW.nilChk rfl rfl ?_
  refine RW.fieldP fl53x1 rfl rfl ?_
  refine RW.load1 sc3 rfl rfl (fun w' hw' => (RdS.of (hw'.has Has.head) ho.len).c1) ?_
  refine RW.assign rfl rfl ?_
  refine RW.nil (EX.seq (CW.seq (CW.seq (CW.region ?_))))
  refine RW.move rfl rfl ?_
  refine RW.assign rfl rfl ?_
  refine RW.nil (EX.seq (CW.block ?_))
  -- mq: loop
  refine CW.loop (ι := Nat × SI) (fun s => [(0, ptr g), (1, .int .i64 (n : Int)), (5, .int .i64 (bs.length : Int)), (6, .int .i64 (s.1 : Int))]) (fun s => SH w (stp g bs.length i).foot [stp g bs.length s.2]) (fun s => n ≤ s.1 ∧ s.1 ≤ 1000 + n ∧ Okk (clB bs n s.1) s.2) (fun s => 1000 + n - s.1) ?_ ?_
  · exact fun w hw => ⟨(n, i), ⟨Nat.le_refl _, by dsimp only; omega, by rw [clB_start]; exact ho⟩, (by repeat (first | exact Sub.nil | refine Sub.cons (by rfl) ?_)), hw⟩
  · rintro ⟨x, j⟩ ⟨hnx, hx2, hj⟩
    dsimp only at hnx hx2 hj ⊢
    refine CW.seq (CW.seq (CW.region ?_))
    refine RW.move rfl rfl ?_
    refine RW.move rfl rfl ?_
    refine RW.lss rfl rfl rfl ?_
    refine RW.nil (EX.seq ?_)
    -- mq: cond
    first | refine CW.condD rfl (fun hlt => ?_) (fun hlt => ?_) | refine CW.cond rfl (fun hlt => ?_) (fun hlt => ?_)
    · skip
      have hcl := fun w' a b => clear_c w' g (clB bs n x) j hj a b (x : Int) (by omega)
      rw [clB_len, clB_step hnx (by omega)] at hcl
      refine CW.skip (EX.seq (CW.seq (CW.block (CW.region ?_))))
      refine RW.move rfl rfl ?_
      refine RW.move rfl rfl ?_
      refine RW.callUI (fun j => [stp g bs.length j]) rfl ca13 rfl (fun _ => Upd.head) (fun w' hw' => hcl w' (hw'.has Has.head) (by simpa [feet] using hw'.nodup)) (fun j2 hj2 => ?_)
      refine RW.nil (EX.bkN (EX.seq (CW.region ?_)))
      refine RW.move rfl rfl ?_
      refine RW.add rfl rfl rfl (wrap64 (by omega) (by omega)) ?_
      refine RW.assign rfl rfl ?_
      refine RW.nil ?_
      -- mq: loopend
      exact EX.lpN (x + 1, j2) ⟨by dsimp only; omega, by dsimp only; omega, hj2⟩ (by dsimp only; omega) (by repeat (first | exact Sub.nil | refine Sub.cons (by rfl) ?_)) (fun w' hw' => hw')
    · skip
      refine CW.exit (EX.seqE (EX.lpE (EX.bkE (EX.seq (CW.seq (CW.block ?_))))))
      -- mq: loop
      obtain ⟨A, m, c, ws⟩ := j
      have hmj := hj.len
      have hm16 := hj.m16
      dsimp only at hmj hm16
      refine CW.unboth Rem.head ?_
      refine CW.loop (ι := Value × Nat × List Nat) (fun s => [(0, ptr g), (1, .int .i64 (n : Int)), (5, .int .i64 (bs.length : Int))]) (fun s => SH w (stp g bs.length i).foot [blk g [s.1, .int .i64 (bs.length : Int)] 53, own 54 1 s.1 s.2.1 (EW.all s.2.2)]) (fun s => s.2.2.length = s.2.1 ∧ s.2.1 ≤ 16 ∧ Rp s.2.2 (clB bs n x)) (fun s => 17 - s.2.1) ?_ ?_
      · exact fun w hw => ⟨(.slice A m c, m, ws), ⟨hmj, hm16, hj.rp⟩, (by repeat (first | exact Sub.nil | refine Sub.cons (by rfl) ?_)), hw⟩
      · rintro ⟨v, m, ws⟩ ⟨hml, hm16, hrp⟩
        dsimp only at hml hm16 hrp ⊢
        refine CW.formOwn (Has.tail Has.head) (fun A c he hmc hcm _ hf => ?_)
        subst he
        refine CW.seq (CW.seq (CW.region ?_))
        refine RW.move rfl rfl ?_
        refine RW.nilChk rfl rfl ?_
        refine RW.fieldB fl53x0 rfl rfl ?_
        refine RW.loadB1 sc51 rfl rfl (by first | exact Has.head | exact Has.tail Has.head | exact Has.tail (Has.tail Has.head) | exact Has.tail (Has.tail (Has.tail Has.head)) | exact Has.tail (Has.tail (Has.tail (Has.tail Has.head))) | exact Has.tail (Has.tail (Has.tail (Has.tail (Has.tail Has.head)))) | exact Has.tail (Has.tail (Has.tail (Has.tail (Has.tail (Has.tail Has.head)))))) rfl ?_
        refine RW.lenSl Tryd.underlying51 rfl rfl ?_
        refine RW.mul rfl rfl rfl (wrap64 (by omega) (by omega)) ?_
        refine RW.move rfl rfl ?_
        refine RW.lss rfl rfl rfl ?_
        refine RW.nil (EX.seq ?_)
        -- mq: cond
        first | refine CW.condD rfl (fun hlt2 => ?_) (fun hlt2 => ?_) | refine CW.cond rfl (fun hlt2 => ?_) (fun hlt2 => ?_)
        · skip
          refine CW.skip (EX.seq (CW.block ?_))
          -- mq: region
          refine CW.region ?_
          refine RW.move rfl rfl ?_
          refine RW.move rfl rfl ?_
          refine RW.nilChk rfl rfl ?_
          refine RW.fieldB fl53x0 rfl rfl ?_
          refine RW.loadB1 sc51 rfl rfl (by first | exact Has.head | exact Has.tail Has.head | exact Has.tail (Has.tail Has.head) | exact Has.tail (Has.tail (Has.tail Has.head)) | exact Has.tail (Has.tail (Has.tail (Has.tail Has.head))) | exact Has.tail (Has.tail (Has.tail (Has.tail (Has.tail Has.head)))) | exact Has.tail (Has.tail (Has.tail (Has.tail (Has.tail (Has.tail Has.head)))))) rfl ?_
          refine RW.buildSlc sl51 rfl rfl rfl rfl (fun g41 hg41 hf41 => ?_)
          refine RW.append1 sl51 rfl rfl rfl (by first | exact Rem.head | exact Rem.tail Rem.head | exact Rem.tail (Rem.tail Rem.head) | exact Rem.tail (Rem.tail (Rem.tail Rem.head)) | exact Rem.tail (Rem.tail (Rem.tail (Rem.tail Rem.head))) | exact Rem.tail (Rem.tail (Rem.tail (Rem.tail (Rem.tail Rem.head)))) | exact Rem.tail (Rem.tail (Rem.tail (Rem.tail (Rem.tail (Rem.tail Rem.head)))))) (fun _ => by first | exact Upd.head | exact Upd.tail Upd.head | exact Upd.tail (Upd.tail Upd.head) | exact Upd.tail (Upd.tail (Upd.tail Upd.head)) | exact Upd.tail (Upd.tail (Upd.tail (Upd.tail Upd.head))) | exact Upd.tail (Upd.tail (Upd.tail (Upd.tail (Upd.tail Upd.head)))) | exact Upd.tail (Upd.tail (Upd.tail (Upd.tail (Upd.tail (Upd.tail Upd.head)))))) rfl (by repeat (first | exact Ones.nil | exact Enc.ones _ _ | refine Ones.cons rfl ?_)) (by simp only [maxLen]; omega) (by omega) (fun v42 hv42 => ?_)
          refine RW.nilChk rfl rfl ?_
          refine RW.fieldB fl53x0 rfl rfl ?_
          -- mq: at
          refine RW.formOwn (Has.tail Has.head) (fun A2 c2 he2 _ _ _ _ => ?_)
          subst he2
          refine RW.store1 sc51 rfl rfl (by first | exact Upd.head | exact Upd.tail Upd.head | exact Upd.tail (Upd.tail Upd.head) | exact Upd.tail (Upd.tail (Upd.tail Upd.head)) | exact Upd.tail (Upd.tail (Upd.tail (Upd.tail Upd.head))) | exact Upd.tail (Upd.tail (Upd.tail (Upd.tail (Upd.tail Upd.head)))) | exact Upd.tail (Upd.tail (Upd.tail (Upd.tail (Upd.tail (Upd.tail Upd.head)))))) rfl (by first | exact Nat.le_of_ble_eq_true rfl | simp) ?_
          refine RW.nil (EX.bkN ?_)
          -- mq: loopend
          refine EX.lpN (.slice A2 (m + 1) c2, m + 1, ws ++ [0]) ⟨by simp [hml], by dsimp only; omega, hrp.app⟩ (by dsimp only; omega) (by repeat (first | exact Sub.nil | refine Sub.cons (by rfl) ?_)) (fun w' hw' => ?_)
          dsimp only
          rw [Enc.all_snoc]
          exact hw'
        · skip
          have hrp3 := rp_mid hrp (by omega) (by omega)
          refine CW.exit (EX.seqE (EX.lpE (EX.bkE (EX.seq (CW.seq (CW.region ?_))))))
          refine RW.move rfl rfl ?_
          refine RW.move rfl rfl ?_
          refine RW.nilChk rfl rfl ?_
          refine RW.fieldB fl53x1 rfl rfl ?_
          refine RW.store1 sc3 rfl rfl (by first | exact Upd.head | exact Upd.tail Upd.head | exact Upd.tail (Upd.tail Upd.head) | exact Upd.tail (Upd.tail (Upd.tail Upd.head)) | exact Upd.tail (Upd.tail (Upd.tail (Upd.tail Upd.head))) | exact Upd.tail (Upd.tail (Upd.tail (Upd.tail (Upd.tail Upd.head)))) | exact Upd.tail (Upd.tail (Upd.tail (Upd.tail (Upd.tail (Upd.tail Upd.head)))))) rfl (by first | exact Nat.le_of_ble_eq_true rfl | simp) ?_
          refine RW.nil (EX.seq (CW.seq (CW.seq (CW.region ?_))))
          refine RW.move rfl rfl ?_
          refine RW.assign rfl rfl ?_
          refine RW.nil (EX.seq (CW.block ?_))
          -- mq: loop
          refine CW.sub (H' := SH w (stp g bs.length i).foot [stp g n ⟨A, m, c, ws⟩]) ?_ (Sub.refl _) (fun w' hw' => hw'.both Rem.head Rem.head)
          refine CW.loop (ι := Nat × SI) (fun s => [(0, ptr g), (1, .int .i64 (n : Int)), (7, .int .i64 (s.1 : Int))]) (fun s => SH w (stp g bs.length i).foot [stp g n s.2]) (fun s => bs.length ≤ s.1 ∧ s.1 ≤ 1000 + bs.length ∧ Okk (grB bs n s.1) s.2) (fun s => 1000 + bs.length - s.1) ?_ ?_
          · exact fun w hw => ⟨(bs.length, ⟨A, m, c, ws⟩), ⟨Nat.le_refl _, by dsimp only; omega, ⟨hrp3, by rw [grB_len]; omega, hml, hm16⟩⟩, (by repeat (first | exact Sub.nil | refine Sub.cons (by rfl) ?_)), hw⟩
          · rintro ⟨x, j⟩ ⟨hnx, hx2, hj⟩
            dsimp only at hnx hx2 hj ⊢
            refine CW.seq (CW.seq (CW.region ?_))
            refine RW.move rfl rfl ?_
            refine RW.move rfl rfl ?_
            refine RW.lss rfl rfl rfl ?_
            refine RW.nil (EX.seq ?_)
            -- mq: cond
            first | refine CW.condD rfl (fun hlt3 => ?_) (fun hlt3 => ?_) | refine CW.cond rfl (fun hlt3 => ?_) (fun hlt3 => ?_)
            · skip
              have hst := grB_step (bs := bs) hnx (show x < n by omega)
              refine CW.skip (EX.seq (CW.seq (CW.block (CW.seq (CW.region ?_)))))
              refine RW.move rfl rfl ?_
              refine RW.remN rfl rfl rfl (by omega) (by omega) ?_
              refine RW.eqlI rfl rfl rfl ?_
              refine RW.nil (EX.seq ?_)
              -- mq: cond
              first | refine CW.condD rfl (fun h8 => ?_) (fun h8 => ?_) | refine CW.cond rfl (fun h8 => ?_) (fun h8 => ?_)
              · skip
                rw [if_pos (by omega)] at hst
                have hcl := fun w' a b => set_c w' g (grB bs n x) j hj a b (x : Int) (by omega)
                rw [grB_len] at hcl
                refine CW.region ?_
                refine RW.move rfl rfl ?_
                refine RW.move rfl rfl ?_
                refine RW.callUI (fun j => [stp g n j]) rfl ca11 rfl (fun _ => Upd.head) (fun w' hw' => hcl w' (hw'.has Has.head) (by simpa [feet] using hw'.nodup)) (fun j2 hj2 => ?_)
                refine RW.nil (EX.bkN (EX.seq (CW.region ?_)))
                refine RW.move rfl rfl ?_
                refine RW.add rfl rfl rfl (wrap64 (by omega) (by omega)) ?_
                refine RW.assign rfl rfl ?_
                refine RW.nil ?_
                -- mq: loopend
                exact EX.lpN (x + 1, j2) ⟨by dsimp only; omega, by dsimp only; omega, by dsimp only; rw [hst]; exact hj2⟩ (by dsimp only; omega) (by repeat (first | exact Sub.nil | refine Sub.cons (by rfl) ?_)) (fun w' hw' => hw')
              · skip
                rw [if_neg (by omega)] at hst
                refine CW.skip (EX.bkN (EX.seq (CW.region ?_)))
                refine RW.move rfl rfl ?_
                refine RW.add rfl rfl rfl (wrap64 (by omega) (by omega)) ?_
                refine RW.assign rfl rfl ?_
                refine RW.nil ?_
                -- mq: loopend
                exact EX.lpN (x + 1, j) ⟨by dsimp only; omega, by dsimp only; omega, by dsimp only; rw [hst]; exact hj⟩ (by dsimp only; omega) (by repeat (first | exact Sub.nil | refine Sub.cons (by rfl) ?_)) (fun w' hw' => hw')
            · skip
              refine CW.exit (EX.seqE (EX.lpE (EX.bkE (EX.seq (CW.seq (CW.region ?_))))))
              refine RW.assign rfl rfl ?_
              refine RW.nil (EX.seq (CW.ret ?_))
              refine EX.fin1 Tryd.results17 rfl (fun wz hw => ?_)
              -- mq: done
              rw [grB_end (by omega)] at hj
              exact RetU.of j hj hw
theorem okk_nil : Okk [] ⟨none, 0, 0, []⟩ := ⟨⟨by simp, by simp, fun x => by simp [wbit, gb]⟩, by simp, rfl, by simp⟩
theorem new_c (w : World) (n : Nat) (h2 : 2 ≤ n ∧ n ≤ 1000) :
    Calls Tryd.prog 9 [.int .i64 (n : Int)].toArray w (RetN (fun s : Nat × SI => Value.tuple #[ptr s.1, .int .i64 0]) (fun s => stp s.1 n s.2) (fun s => Okk (sizeB [] n) s.2) w) := by
  refine calls (n := 14) Tryd.func9 rfl Tryd.ntmps9 rfl ?_
  refine CW.sub (H' := SH w [] []) ?_ (Sub.refl _) (fun x hx => SH.start' _ _ hx)
  refine CW.seq (CW.region ?_)
  refine RW.assign rfl rfl ?_
  refine RW.assign rfl rfl ?_
  refine RW.nil (EX.seq (CW.seq (CW.seq (CW.region ?_))))
  refine RW.move rfl rfl ?_
  -- mq: op 1: ('Op.call', ('Call.mk', ('Callee.value', ('Operand.func', '25')), ('arr', ('Operand.tmp', '5')), ('arr', '3'))) -> slot 6 ("tabs.go:27")
  refine RW.call rfl ca25 rfl (fun w' hw' => fits_c w' n) ?_
  refine RW.not_ rfl rfl ?_
  refine RW.nil (EX.seq ?_)
  -- mq: cond
  refine CW.condF rfl ((by rw [decide_eq_true (show 2 ≤ (n : Int) ∧ (n : Int) ≤ 1000 by omega)]; rfl)) ?_
  refine CW.skip (EX.seq (CW.seq (CW.region ?_)))
  refine RW.buildS bu53 rfl rfl rfl ?_
  refine RW.boxA rfl rfl (fun g9 hg9 hf9 => ?_)
  refine RW.assign rfl rfl ?_
  refine RW.nil (EX.seq (CW.seq (CW.region ?_)))
  refine RW.move rfl rfl ?_
  refine RW.move rfl rfl ?_
  -- mq: op 2: ('Op.call', ('Call.mk', ('Callee.value', ('Operand.func', '17')), ('arr', ('Operand.tmp', '10'), ('Operand.tmp', '11')), ('arr', '25', '3'))) -> slot 12 ("tabs.go:31")
  refine RW.sub (H' := SH w [] [stp g9 0 ⟨none, 0, 0, []⟩]) ?_ (Sub.refl _) (fun w' hw' => (hw'.ownNil 54 1).both (Rem.tail Rem.head) Rem.head)
  refine RW.callUI (fun j => [stp g9 n j]) rfl ca17 rfl (fun _ => Upd.head) (fun w' hw' => size_c w' g9 [] _ okk_nil (hw'.has Has.head) (by simpa [feet] using hw'.nodup) n h2) (fun j hj => ?_)
  refine RW.nil (EX.seq (CW.seq (CW.region ?_)))
  refine RW.move rfl rfl ?_
  refine RW.assign rfl rfl ?_
  refine RW.assign rfl rfl ?_
  refine RW.nil (EX.seq (CW.ret ?_))
  refine EX.fin2 Tryd.results9 rfl rfl (fun wz hw => ?_)
  -- mq: done
  exact RetN.of (g9, j) hj hw
theorem new_err (w : World) (n : Int) (h : ¬ (2 ≤ n ∧ n ≤ 1000)) :
    Calls Tryd.prog 9 [.int .i64 n].toArray w (fun e w' => e = .returned (.tuple #[.pointer none, .int .i64 1]) ∧ Ext [] w w') := by
  refine calls (n := 14) Tryd.func9 rfl Tryd.ntmps9 rfl ?_
  refine CW.sub (H' := SH w [] []) ?_ (Sub.refl _) (fun x hx => SH.start' _ _ hx)
  refine CW.seq (CW.region ?_)
  refine RW.assign rfl rfl ?_
  refine RW.assign rfl rfl ?_
  refine RW.nil (EX.seq (CW.seq (CW.seq (CW.region ?_))))
  refine RW.move rfl rfl ?_
  -- mq: op 1: ('Op.call', ('Call.mk', ('Callee.value', ('Operand.func', '25')), ('arr', ('Operand.tmp', '5')), ('arr', '3'))) -> slot 6 ("tabs.go:27")
  refine RW.call rfl ca25 rfl (fun w' hw' => fits_c w' n) ?_
  refine RW.not_ rfl rfl ?_
  refine RW.nil (EX.seq ?_)
  -- mq: cond
  refine CW.condT rfl ((by rw [decide_eq_false h]; rfl)) ?_
  refine CW.seq (CW.region ?_)
  refine RW.assign rfl rfl ?_
  refine RW.assign rfl rfl ?_
  refine RW.nil (EX.seq (CW.ret (EX.seqR ?_)))
  refine EX.fin2 Tryd.results9 rfl rfl (fun wz hw => ?_)
  -- mq: done
  exact ⟨rfl, hw.ext⟩
end Go.Proofs.YthfbdbahggklnaaDoor.Mq
