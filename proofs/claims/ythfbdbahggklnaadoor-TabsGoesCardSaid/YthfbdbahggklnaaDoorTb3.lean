/- tabs: walks of times, Next, Ahead, List, Size, New -/
import Derived.Test.YthfbdbahggklnaaDoorTb2
namespace Go.Proofs.YthfbdbahggklnaaDoor.Mq
open Go Go.RowKit Go.Proofs

def EInt : Enc Int := ⟨fun p => [.int .i64 p], 1, fun _ => rfl, fun _ => Ones.cons rfl Ones.nil⟩
theorem times_c (w : World) (g n : Nat) (i : SI) (h : RdS w g n i) (hn : 0 < n ∧ n ≤ 1000) (fid : FuncId) (hca : CaT Tryd.prog fid) (cap : List Value) (F : Nat → Nat) (hF : ∀ x, x < n → F x < n)
    (hcall : ∀ w', Ext [] w w' → ∀ x, x < n → Calls Tryd.prog fid ([] ++ [Value.int .i64 (x : Int)] ++ cap).toArray w' (fun e w'' => e = .returned (.int .i64 (F x : Int)) ∧ Ext [] w' w'')) (x k : Int) :
    Calls Tryd.prog 27 [ptr g, .int .i64 x, .int .i64 k, .func (.func fid) ([] : List Value).toArray cap.toArray].toArray w (fun e w' => e = .returned (.int .i64 (timesB F n x k : Int)) ∧ Ext [] w w') := by
  obtain ⟨N, hN⟩ : ∃ N : Nat, min (max 0 k) (n : Int) = (N : Int) := ⟨(min (max 0 k) (n : Int)).toNat, by omega⟩
  obtain ⟨x0, hx0⟩ : ∃ x0 : Nat, max 0 (min x ((n : Int) - 1)) = (x0 : Int) := ⟨(max 0 (min x ((n : Int) - 1))).toNat, by omega⟩
  have hT : timesB F n x k = iter F N x0 := by
    unfold timesB clampB
    rw [hN, hx0, Int.toNat_natCast, Int.toNat_natCast]
  have hx0n : x0 < n := by omega
  rw [hT]
  clear hT
  refine calls (n := 33) Tryd.func27 rfl Tryd.ntmps27 rfl ?_
  refine CW.sub (H' := SH w [] []) ?_ (Sub.refl _) (fun x hx => SH.start' _ _ hx)
  refine CW.seq (CW.region ?_)
  refine RW.assign rfl rfl ?_
  refine RW.nil (EX.seq (CW.seq (CW.seq (CW.region ?_))))
  refine RW.move rfl rfl ?_
  refine RW.eqlP Tryd.underlying25 rfl rfl rfl ?_
  refine RW.nil (EX.seq ?_)
  -- mq: cond
  refine CW.condF rfl (rfl) ?_
  refine CW.skip (EX.seq (CW.seq (CW.region ?_)))
  refine RW.move rfl rfl ?_
  refine RW.move rfl rfl ?_
  refine RW.nilChk rfl rfl ?_
  refine RW.fieldP fl53x1 rfl rfl ?_
  refine RW.load1 sc3 rfl rfl (fun w' hw' => hw'.base_cell h.c1 (by simp)) ?_
  refine RW.sub_ rfl rfl rfl (wrap64 (by omega) (by omega)) ?_
  refine RW.min2 rfl rfl rfl ?_
  refine RW.max2 rfl rfl rfl ?_
  refine RW.assign rfl rfl ?_
  refine RW.nil (EX.seq (CW.seq (CW.seq (CW.region ?_))))
  refine RW.move rfl rfl ?_
  refine RW.max2 rfl rfl rfl ?_
  refine RW.move rfl rfl ?_
  refine RW.nilChk rfl rfl ?_
  refine RW.fieldP fl53x1 rfl rfl ?_
  refine RW.load1 sc3 rfl rfl (fun w' hw' => hw'.base_cell h.c1 (by simp)) ?_
  refine RW.min2 rfl rfl rfl ?_
  refine RW.move rfl rfl ?_
  refine RW.nil (EX.seq (CW.block ?_))
  -- mq: loop
  rw [hN, hx0]
  refine CW.loop (ι := Nat) (fun j => [(1, .int .i64 (iter F j x0 : Int)), (3, .func (.func fid) ([] : List Value).toArray cap.toArray), (25, .int .i64 (N : Int)), (26, .int .i64 (j : Int))]) (fun _ => SH w [] []) (fun j => j ≤ N) (fun j => N - j) ?_ ?_
  · exact fun w hw => ⟨0, Nat.zero_le _, (by repeat (first | exact Sub.nil | refine Sub.cons (by rfl) ?_)), hw⟩
  · intro j hj
    have hlt0 := iter_lt hF j x0 hx0n
    refine CW.seq (CW.region ?_)
    refine RW.lss rfl rfl rfl ?_
    refine RW.nil (EX.seq (CW.seq ?_))
    -- mq: cond
    first | refine CW.condD rfl (fun hlt => ?_) (fun hlt => ?_) | refine CW.cond rfl (fun hlt => ?_) (fun hlt => ?_)
    · skip
      refine CW.skip (EX.seq (CW.seq (CW.block (CW.region ?_))))
      refine RW.move rfl rfl ?_
      refine RW.move rfl rfl ?_
      refine RW.callV (first := []) rfl rfl hca rfl (fun w' hw' => hcall w' hw'.ext _ hlt0) ?_
      refine RW.assign rfl rfl ?_
      refine RW.nil (EX.bkN (EX.seq (CW.region ?_)))
      refine RW.add rfl rfl rfl (wrap64 (by omega) (by omega)) ?_
      refine RW.move rfl rfl ?_
      refine RW.nil ?_
      -- mq: loopend
      exact EX.lpN (j + 1) (by omega) (by omega) (by repeat (first | exact Sub.nil | refine Sub.cons (by rfl) ?_)) (fun w' hw' => hw')
    · skip
      obtain rfl : j = N := by omega
      refine CW.exit (EX.seqE (EX.lpE (EX.bkE (EX.seq (CW.seq (CW.region ?_))))))
      refine RW.move rfl rfl ?_
      refine RW.assign rfl rfl ?_
      refine RW.nil (EX.seq (CW.ret ?_))
      refine EX.fin1 Tryd.results27 rfl (fun wz hw => ?_)
      -- mq: done
      exact ⟨rfl, hw.ext⟩
theorem times_nil (w : World) (v : Value) (x k : Int) : Calls Tryd.prog 27 [.pointer none, .int .i64 x, .int .i64 k, v].toArray w (fun e w' => e = .returned (.int .i64 0) ∧ Ext [] w w') := by
  refine calls (n := 33) Tryd.func27 rfl Tryd.ntmps27 rfl ?_
  refine CW.sub (H' := SH w [] []) ?_ (Sub.refl _) (fun x hx => SH.start' _ _ hx)
  refine CW.seq (CW.region ?_)
  refine RW.assign rfl rfl ?_
  refine RW.nil (EX.seq (CW.seq (CW.seq (CW.region ?_))))
  refine RW.move rfl rfl ?_
  refine RW.eqlP Tryd.underlying25 rfl rfl rfl ?_
  refine RW.nil (EX.seq ?_)
  -- mq: cond
  refine CW.condT rfl (rfl) ?_
  refine CW.seq (CW.region ?_)
  refine RW.assign rfl rfl ?_
  refine RW.nil (EX.seq (CW.ret (EX.seqR ?_)))
  refine EX.fin1 Tryd.results27 rfl (fun wz hw => ?_)
  -- mq: done
  exact ⟨rfl, hw.ext⟩
theorem next1_c (w : World) (hg : Gt w) (a g : Nat) (bs : List Bool) (i : SI) (ho : Okk bs i) (h : RdS w g bs.length i) (ha : w.cell? ⟨a, 0, none⟩ = some (ptr g)) (x : Nat) (hx : x < bs.length) :
    Calls Tryd.prog 28 [.int .i64 (x : Int), ptr a].toArray w (fun e w' => e = .returned (.int .i64 (afterB bs x : Int)) ∧ Ext [] w w') := by
  refine calls (n := 7) Tryd.func28 rfl Tryd.ntmps28 rfl ?_
  refine CW.sub (H' := SH w [] []) ?_ (Sub.refl _) (fun x hx => SH.start' _ _ hx)
  refine CW.seq (CW.region ?_)
  refine RW.assign rfl rfl ?_
  refine RW.nil (EX.seq (CW.seq (CW.region ?_)))
  refine RW.load1 sc25 rfl rfl (fun w' hw' => hw'.base_cell ha (by simp)) ?_
  refine RW.move rfl rfl ?_
  refine RW.call rfl ca29 rfl (fun w' hw' => after_c w' (hg.ext hw'.ext) g bs i ho (h.ext hw'.ext) x hx) ?_
  refine RW.assign rfl rfl ?_
  refine RW.nil (EX.seq (CW.ret ?_))
  refine EX.fin1 Tryd.results28 rfl (fun wz hw => ?_)
  -- mq: done
  exact ⟨rfl, hw.ext⟩
theorem ahead1_c (w : World) (a g : Nat) (bs : List Bool) (i : SI) (ho : Okk bs i) (h : RdS w g bs.length i) (ha : w.cell? ⟨a, 0, none⟩ = some (ptr g)) (x : Nat) (hx : x < bs.length) :
    Calls Tryd.prog 30 [.int .i64 (x : Int), ptr a].toArray w (fun e w' => e = .returned (.int .i64 (beforeB bs x : Int)) ∧ Ext [] w w') := by
  refine calls (n := 7) Tryd.func30 rfl Tryd.ntmps30 rfl ?_
  refine CW.sub (H' := SH w [] []) ?_ (Sub.refl _) (fun x hx => SH.start' _ _ hx)
  refine CW.seq (CW.region ?_)
  refine RW.assign rfl rfl ?_
  refine RW.nil (EX.seq (CW.seq (CW.region ?_)))
  refine RW.load1 sc25 rfl rfl (fun w' hw' => hw'.base_cell ha (by simp)) ?_
  refine RW.move rfl rfl ?_
  refine RW.call rfl ca31 rfl (fun w' hw' => before_c w' g bs i ho (h.ext hw'.ext) x hx) ?_
  refine RW.assign rfl rfl ?_
  refine RW.nil (EX.seq (CW.ret ?_))
  refine EX.fin1 Tryd.results30 rfl (fun wz hw => ?_)
  -- mq: done
  exact ⟨rfl, hw.ext⟩
theorem blk_cell0 {w : World} {b : World} {S : List Nat} {cs : List Chunk} {a t : Nat} {v : Value} (h : SH b S cs w) (hc : Has cs (blk a [v] t)) : w.cell? ⟨a, 0, none⟩ = some v := h.blk_cell hc rfl
theorem next_c (w : World) (hg : Gt w) (g : Nat) (bs : List Bool) (i : SI) (ho : Okk bs i) (h : RdS w g bs.length i) (hp : 0 < bs.length) (x k : Int) :
    Calls Tryd.prog 22 [ptr g, .int .i64 x, .int .i64 k].toArray w (fun e w' => e = .returned (.int .i64 (timesB (afterB bs) bs.length x k : Int)) ∧ Ext [] w w') := by
  refine calls (n := 12) Tryd.func22 rfl Tryd.ntmps22 rfl ?_
  refine CW.sub (H' := SH w [] []) ?_ (Sub.refl _) (fun x hx => SH.start' _ _ hx)
  refine CW.seq (CW.region ?_)
  refine RW.box1 rfl rfl rfl (fun g3 hg3 hf3 => ?_)
  refine RW.assign rfl rfl ?_
  refine RW.nil (EX.seq (CW.seq (CW.region ?_)))
  refine RW.loadB1 sc25 rfl rfl (by first | exact Has.head | exact Has.tail Has.head | exact Has.tail (Has.tail Has.head) | exact Has.tail (Has.tail (Has.tail Has.head)) | exact Has.tail (Has.tail (Has.tail (Has.tail Has.head))) | exact Has.tail (Has.tail (Has.tail (Has.tail (Has.tail Has.head)))) | exact Has.tail (Has.tail (Has.tail (Has.tail (Has.tail (Has.tail Has.head)))))) rfl ?_
  refine RW.move rfl rfl ?_
  refine RW.move rfl rfl ?_
  refine RW.makeFunc (us := []) (vs := [ptr g3]) rfl rfl rfl ?_
  -- mq: op 4: ('Op.call', ('Call.mk', ('Callee.value', ('Operand.func', '27')), ('arr', ('Operand.tmp', '7'), ('Operand.tmp', '8'), ('Operand.tmp', '9'), ('Operand.tmp', '10')), ('arr', '25', '3', '3', '56'))) -> slot 11 ("tabs.go:104")
  refine RW.call rfl ca27 rfl (fun w' hw' => times_c w' g _ i (h.ext hw'.ext) ⟨hp, ho.le⟩ _ ca28 [ptr g3] (afterB bs) (fun y hy => afterB_lt y hp) (fun w'' hx y hy => next1_c w'' ((hg.ext hw'.ext).ext hx) g3 g bs i ho ((h.ext hw'.ext).ext hx) (blk_cell0 (hw'.keep hx) Has.head) y hy) x k) ?_
  refine RW.assign rfl rfl ?_
  refine RW.nil (EX.seq (CW.ret ?_))
  refine EX.fin1 Tryd.results22 rfl (fun wz hw => ?_)
  -- mq: done
  exact ⟨rfl, hw.ext⟩
theorem ahead_c (w : World) (g : Nat) (bs : List Bool) (i : SI) (ho : Okk bs i) (h : RdS w g bs.length i) (hp : 0 < bs.length) (x k : Int) :
    Calls Tryd.prog 23 [ptr g, .int .i64 x, .int .i64 k].toArray w (fun e w' => e = .returned (.int .i64 (timesB (beforeB bs) bs.length x k : Int)) ∧ Ext [] w w') := by
  refine calls (n := 12) Tryd.func23 rfl Tryd.ntmps23 rfl ?_
  refine CW.sub (H' := SH w [] []) ?_ (Sub.refl _) (fun x hx => SH.start' _ _ hx)
  refine CW.seq (CW.region ?_)
  refine RW.box1 rfl rfl rfl (fun g3 hg3 hf3 => ?_)
  refine RW.assign rfl rfl ?_
  refine RW.nil (EX.seq (CW.seq (CW.region ?_)))
  refine RW.loadB1 sc25 rfl rfl (by first | exact Has.head | exact Has.tail Has.head | exact Has.tail (Has.tail Has.head) | exact Has.tail (Has.tail (Has.tail Has.head)) | exact Has.tail (Has.tail (Has.tail (Has.tail Has.head))) | exact Has.tail (Has.tail (Has.tail (Has.tail (Has.tail Has.head)))) | exact Has.tail (Has.tail (Has.tail (Has.tail (Has.tail (Has.tail Has.head)))))) rfl ?_
  refine RW.move rfl rfl ?_
  refine RW.move rfl rfl ?_
  refine RW.makeFunc (us := []) (vs := [ptr g3]) rfl rfl rfl ?_
  -- mq: op 4: ('Op.call', ('Call.mk', ('Callee.value', ('Operand.func', '27')), ('arr', ('Operand.tmp', '7'), ('Operand.tmp', '8'), ('Operand.tmp', '9'), ('Operand.tmp', '10')), ('arr', '25', '3', '3', '56'))) -> slot 11 ("tabs.go:109")
  refine RW.call rfl ca27 rfl (fun w' hw' => times_c w' g _ i (h.ext hw'.ext) ⟨hp, ho.le⟩ _ ca30 [ptr g3] (beforeB bs) (fun y hy => by have := beforeB_le bs y; omega) (fun w'' hx y hy => ahead1_c w'' g3 g bs i ho ((h.ext hw'.ext).ext hx) (blk_cell0 (hw'.keep hx) Has.head) y hy) x k) ?_
  refine RW.assign rfl rfl ?_
  refine RW.nil (EX.seq (CW.ret ?_))
  refine EX.fin1 Tryd.results23 rfl (fun wz hw => ?_)
  -- mq: done
  exact ⟨rfl, hw.ext⟩
theorem next_nil (w : World) (x k : Int) : Calls Tryd.prog 22 [.pointer none, .int .i64 x, .int .i64 k].toArray w (fun e w' => e = .returned (.int .i64 0) ∧ Ext [] w w') := by
  refine calls (n := 12) Tryd.func22 rfl Tryd.ntmps22 rfl ?_
  refine CW.sub (H' := SH w [] []) ?_ (Sub.refl _) (fun x hx => SH.start' _ _ hx)
  refine CW.seq (CW.region ?_)
  refine RW.box1 rfl rfl rfl (fun g3 hg3 hf3 => ?_)
  refine RW.assign rfl rfl ?_
  refine RW.nil (EX.seq (CW.seq (CW.region ?_)))
  refine RW.loadB1 sc25 rfl rfl (by first | exact Has.head | exact Has.tail Has.head | exact Has.tail (Has.tail Has.head) | exact Has.tail (Has.tail (Has.tail Has.head)) | exact Has.tail (Has.tail (Has.tail (Has.tail Has.head))) | exact Has.tail (Has.tail (Has.tail (Has.tail (Has.tail Has.head)))) | exact Has.tail (Has.tail (Has.tail (Has.tail (Has.tail (Has.tail Has.head)))))) rfl ?_
  refine RW.move rfl rfl ?_
  refine RW.move rfl rfl ?_
  refine RW.makeFunc (us := []) (vs := [ptr g3]) rfl rfl rfl ?_
  refine RW.call rfl ca27 rfl (fun w' hw' => times_nil w' _ x k) ?_
  refine RW.assign rfl rfl ?_
  refine RW.nil (EX.seq (CW.ret ?_))
  refine EX.fin1 Tryd.results22 rfl (fun wz hw => ?_)
  -- mq: done
  exact ⟨rfl, hw.ext⟩
theorem ahead_nil (w : World) (x k : Int) : Calls Tryd.prog 23 [.pointer none, .int .i64 x, .int .i64 k].toArray w (fun e w' => e = .returned (.int .i64 0) ∧ Ext [] w w') := by
  refine calls (n := 12) Tryd.func23 rfl Tryd.ntmps23 rfl ?_
  refine CW.sub (H' := SH w [] []) ?_ (Sub.refl _) (fun x hx => SH.start' _ _ hx)
  refine CW.seq (CW.region ?_)
  refine RW.box1 rfl rfl rfl (fun g3 hg3 hf3 => ?_)
  refine RW.assign rfl rfl ?_
  refine RW.nil (EX.seq (CW.seq (CW.region ?_)))
  refine RW.loadB1 sc25 rfl rfl (by first | exact Has.head | exact Has.tail Has.head | exact Has.tail (Has.tail Has.head) | exact Has.tail (Has.tail (Has.tail Has.head)) | exact Has.tail (Has.tail (Has.tail (Has.tail Has.head))) | exact Has.tail (Has.tail (Has.tail (Has.tail (Has.tail Has.head)))) | exact Has.tail (Has.tail (Has.tail (Has.tail (Has.tail (Has.tail Has.head)))))) rfl ?_
  refine RW.move rfl rfl ?_
  refine RW.move rfl rfl ?_
  refine RW.makeFunc (us := []) (vs := [ptr g3]) rfl rfl rfl ?_
  refine RW.call rfl ca27 rfl (fun w' hw' => times_nil w' _ x k) ?_
  refine RW.assign rfl rfl ?_
  refine RW.nil (EX.seq (CW.ret ?_))
  refine EX.fin1 Tryd.results23 rfl (fun wz hw => ?_)
  -- mq: done
  exact ⟨rfl, hw.ext⟩
/- List -/
def listTo (bs : List Bool) (k : Nat) : List Int := ((List.range k).filter (gb bs)).map (fun x : Nat => (x : Int))
theorem listTo_succ (bs : List Bool) (k : Nat) : listTo bs (k + 1) = if gb bs k then listTo bs k ++ [(k : Int)] else listTo bs k := by
  unfold listTo
  rw [List.range_succ, List.filter_append, List.map_append]
  by_cases h : gb bs k = true <;> simp [h]
theorem listTo_len (bs : List Bool) (k : Nat) : (listTo bs k).length ≤ k := by
  unfold listTo
  rw [List.length_map]
  have := List.length_filter_le (gb bs) (List.range k)
  simpa using this
theorem hasB_nat (bs : List Bool) (k : Nat) : hasB bs (k : Int) = gb bs k := by
  rw [hasB, Int.toNat_natCast, decide_eq_true (Int.natCast_nonneg k), Bool.true_and]
theorem list_c (w : World) (g : Nat) (bs : List Bool) (i : SI) (ho : Okk bs i) (h : RdS w g bs.length i) :
    Calls Tryd.prog 20 [ptr g].toArray w (RetSl EInt w (listB bs)) := by
  have hle := ho.le
  refine calls (n := 19) Tryd.func20 rfl Tryd.ntmps20 rfl ?_
  refine CW.sub (H' := SH w [] []) ?_ (Sub.refl _) (fun x hx => SH.start' _ _ hx)
  refine CW.seq (CW.region ?_)
  refine RW.assign rfl rfl ?_
  refine RW.nil (EX.seq (CW.seq (CW.region ?_)))
  refine RW.assign rfl rfl ?_
  refine RW.nil (EX.seq (CW.seq (CW.seq ?_)))
  -- mq: region
  refine CW.ownNil 3 1 ?_
  -- mq: region
  refine CW.region ?_
  refine RW.move rfl rfl ?_
  refine RW.call rfl ca10 rfl (fun w' hw' => cols_c w' g _ i (h.ext hw'.ext)) ?_
  refine RW.move rfl rfl ?_
  refine RW.nil (EX.seq (CW.block ?_))
  -- mq: loop
  refine CW.loop (ι := Nat × Value) (fun k => [(0, ptr g), (3, k.2), (6, .int .i64 (bs.length : Int)), (7, .int .i64 (k.1 : Int))]) (fun k => SH w [] [own 3 1 k.2 (listTo bs k.1).length (EInt.all (listTo bs k.1))]) (fun k => k.1 ≤ bs.length ∧ ∀ g, k.2.ownBlock = some g → w.heap.size ≤ g) (fun k => bs.length - k.1) ?_ ?_
  · exact fun w hw => ⟨(0, .slice none 0 0), ⟨by omega, by simp [Value.ownBlock]⟩, (by repeat (first | exact Sub.nil | refine Sub.cons (by rfl) ?_)), hw⟩
  · rintro ⟨k, v⟩ ⟨hk, hv⟩
    dsimp only at hk hv ⊢
    have hll := listTo_len bs k
    have hs := listTo_succ bs k
    refine CW.seq (CW.region ?_)
    refine RW.lss rfl rfl rfl ?_
    refine RW.nil (EX.seq (CW.seq ?_))
    -- mq: cond
    first | refine CW.condD rfl (fun hlt => ?_) (fun hlt => ?_) | refine CW.cond rfl (fun hlt => ?_) (fun hlt => ?_)
    · skip
      refine CW.skip (EX.seq (CW.seq (CW.block (CW.seq (CW.region ?_)))))
      refine RW.move rfl rfl ?_
      refine RW.assign rfl rfl ?_
      refine RW.nil (EX.seq (CW.seq (CW.region ?_)))
      refine RW.move rfl rfl ?_
      refine RW.move rfl rfl ?_
      refine RW.call rfl ca12 rfl (fun w' hw' => has_c w' g bs i ho (h.ext hw'.ext) k (by omega)) ?_
      refine RW.nil (EX.seq ?_)
      -- mq: cond
      rw [hasB_nat]
      first | refine CW.condD rfl (fun h2 => ?_) (fun h2 => ?_) | refine CW.cond rfl (fun h2 => ?_) (fun h2 => ?_)
      · skip
        rw [if_pos h2] at hs
        refine CW.region ?_
        refine RW.move rfl rfl ?_
        refine RW.move rfl rfl ?_
        refine RW.buildSlc sl42 rfl rfl rfl rfl (fun g15 hg15 hf15 => ?_)
        refine RW.append1 sl42 rfl rfl rfl (by first | exact Rem.head | exact Rem.tail Rem.head | exact Rem.tail (Rem.tail Rem.head) | exact Rem.tail (Rem.tail (Rem.tail Rem.head)) | exact Rem.tail (Rem.tail (Rem.tail (Rem.tail Rem.head))) | exact Rem.tail (Rem.tail (Rem.tail (Rem.tail (Rem.tail Rem.head)))) | exact Rem.tail (Rem.tail (Rem.tail (Rem.tail (Rem.tail (Rem.tail Rem.head)))))) (fun _ => by first | exact Upd.head | exact Upd.tail Upd.head | exact Upd.tail (Upd.tail Upd.head) | exact Upd.tail (Upd.tail (Upd.tail Upd.head)) | exact Upd.tail (Upd.tail (Upd.tail (Upd.tail Upd.head))) | exact Upd.tail (Upd.tail (Upd.tail (Upd.tail (Upd.tail Upd.head)))) | exact Upd.tail (Upd.tail (Upd.tail (Upd.tail (Upd.tail (Upd.tail Upd.head)))))) rfl (by repeat (first | exact Ones.nil | exact Enc.ones _ _ | refine Ones.cons rfl ?_)) (by simp only [maxLen]; omega) (by omega) (fun v16 hv16 => ?_)
        refine RW.assign rfl rfl ?_
        refine RW.nil (EX.bkN (EX.seq (CW.region ?_)))
        refine RW.add rfl rfl rfl (wrap64 (by omega) (by omega)) ?_
        refine RW.move rfl rfl ?_
        refine RW.nil ?_
        -- mq: loopend
        refine EX.lpN (k + 1, v16) ⟨by dsimp only; omega, fun g hg => by
            rcases hv16 g hg with h | h
            · exact hv g h
            · exact h.1⟩ (by dsimp only; omega) (by repeat (first | exact Sub.nil | refine Sub.cons (by rfl) ?_)) (fun w' hw' => ?_)
        dsimp only
        rw [hs, List.length_append, Enc.all_snoc]
        exact hw'
      · skip
        rw [if_neg (by simp [h2])] at hs
        refine CW.skip (EX.bkN (EX.seq (CW.region ?_)))
        refine RW.add rfl rfl rfl (wrap64 (by omega) (by omega)) ?_
        refine RW.move rfl rfl ?_
        refine RW.nil ?_
        -- mq: loopend
        refine EX.lpN (k + 1, v) ⟨by dsimp only; omega, hv⟩ (by dsimp only; omega) (by repeat (first | exact Sub.nil | refine Sub.cons (by rfl) ?_)) (fun w' hw' => ?_)
        dsimp only
        rw [hs]
        exact hw'
    · skip
      obtain rfl : k = bs.length := by omega
      refine CW.exit (EX.seqE (EX.lpE (EX.bkE (EX.seq (CW.seq (CW.region ?_))))))
      refine RW.move rfl rfl ?_
      refine RW.assign rfl rfl ?_
      refine RW.nil (EX.seq (CW.ret ?_))
      refine EX.fin1 Tryd.results20 rfl (fun wz hw => ?_)
      -- mq: done
      exact RetSl.of_own hw.ext (hw.has Has.head) rfl hv
theorem list_nil (w : World) : Calls Tryd.prog 20 [.pointer none].toArray w (fun e w' => e = .returned (.slice none 0 0) ∧ Ext [] w w') := by
  refine calls (n := 19) Tryd.func20 rfl Tryd.ntmps20 rfl ?_
  refine CW.sub (H' := SH w [] []) ?_ (Sub.refl _) (fun x hx => SH.start' _ _ hx)
  refine CW.seq (CW.region ?_)
  refine RW.assign rfl rfl ?_
  refine RW.nil (EX.seq (CW.seq (CW.region ?_)))
  refine RW.assign rfl rfl ?_
  refine RW.nil (EX.seq (CW.seq (CW.seq ?_)))
  -- mq: region
  refine CW.region ?_
  refine RW.move rfl rfl ?_
  refine RW.call rfl ca10 rfl (fun w' hw' => cols_nil w') ?_
  refine RW.move rfl rfl ?_
  refine RW.nil (EX.seq (CW.block ?_))
  -- mq: loop
  refine CW.loop (ι := Unit) (fun k => [(3, .slice none 0 0), (6, .int .i64 0), (7, .int .i64 0)]) (fun k => SH w [] []) (fun _ => True) (fun _ => 0) ?_ ?_
  · exact fun w hw => ⟨(), trivial, (by repeat (first | exact Sub.nil | refine Sub.cons (by rfl) ?_)), hw⟩
  · intro _ _
    refine CW.seq (CW.region ?_)
    refine RW.lss rfl rfl rfl ?_
    refine RW.nil (EX.seq (CW.seq ?_))
    -- mq: cond
    refine CW.condF rfl (rfl) ?_
    refine CW.exit (EX.seqE (EX.lpE (EX.bkE (EX.seq (CW.seq (CW.region ?_))))))
    refine RW.move rfl rfl ?_
    refine RW.assign rfl rfl ?_
    refine RW.nil (EX.seq (CW.ret ?_))
    refine EX.fin1 Tryd.results20 rfl (fun wz hw => ?_)
    -- mq: done
    exact ⟨rfl, hw.ext⟩
end Go.Proofs.YthfbdbahggklnaaDoor.Mq
