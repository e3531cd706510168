/- tabs: walks of List, after, before, times, Next, Ahead -/
import Derived.Test.YthfbdbahggklnaaDoorTb1
namespace Go.Proofs.YthfbdbahggklnaaDoor.Mq
open Go Go.RowKit Go.Proofs

/-- the table of the library stands as it was laid -/
def Gt (w : World) : Prop := TabAt (lays29_ren.g 1) Lib.deBruijn64tab w
theorem Gt.ext {w w' : World} (h : Gt w) (hx : Ext [] w w') : Gt w' := fun j hj => by
  rw [hx.cell (World.block_lt_of_cell? _ _ (h j hj)) (by simp)]; exact h j hj
theorem ctz_c (w : World) (hg : Gt w) (v : Nat) (hv : v < 2 ^ 64) : Calls Tryd.prog 32 [.int .u64 (v : Int)].toArray w (fun e w' => e = .returned (.int .i64 (Lib.ctz 64 v : Int)) ∧ Ext [] w w') :=
  (Any7.bits_TrailingZeros64 lays29 v hv w (fun _ => hg)).mono fun _ _ ⟨h1, h2⟩ => ⟨h1, h2 ▸ Ext.refl _ _⟩
theorem clz_c (w : World) (v : Nat) (hv : v < 2 ^ 64) : Calls Tryd.prog 33 [.int .u64 (v : Int)].toArray w (fun e w' => e = .returned (.int .i64 (64 - (Lib.bitLen v : Int))) ∧ Ext [] w w') :=
  (Any.bits_LeadingZeros64 lays134 (v : Int) w (by omega) (by omega)).mono fun _ _ ⟨h1, h2⟩ => ⟨by rw [h1, Int.toNat_natCast], h2 ▸ Ext.refl _ _⟩
theorem after_c (w : World) (hg : Gt w) (g : Nat) (bs : List Bool) (i : SI) (ho : Okk bs i) (h : RdS w g bs.length i) (x : Nat) (hx : x < bs.length) :
    Calls Tryd.prog 29 [ptr g, .int .i64 (x : Int)].toArray w (fun e w' => e = .returned (.int .i64 (afterB bs x : Int)) ∧ Ext [] w w') := by
  have hle := ho.le
  refine calls (n := 46) Tryd.func29 rfl Tryd.ntmps29 rfl ?_
  refine CW.sub (H' := SH w [] []) ?_ (Sub.refl _) (fun x hx => SH.start' _ _ hx)
  refine CW.seq (CW.region ?_)
  refine RW.assign rfl rfl ?_
  refine RW.nil (EX.seq (CW.seq (CW.seq (CW.region ?_))))
  refine RW.move rfl rfl ?_
  refine RW.add rfl rfl rfl (wrap64 (by omega) (by omega)) ?_
  refine RW.assign rfl rfl ?_
  refine RW.nil (EX.seq (CW.block ?_))
  -- mq: loop
  refine CW.loop (ι := Nat) (fun y => [(0, ptr g), (1, .int .i64 (y : Int))]) (fun _ => SH w [] []) (fun y => x < y ∧ y ≤ 1100 ∧ ∀ z, x < z → z < y → gb bs z = false) (fun y => 1100 - y) ?_ ?_
  · exact fun w hw => ⟨x + 1, ⟨by omega, by omega, by intro z h1 h2; omega⟩, (by repeat (first | exact Sub.nil | refine Sub.cons (by rfl) ?_)), hw⟩
  · rintro y ⟨hxy, hy, hno⟩
    refine CW.seq (CW.seq (CW.region ?_))
    refine RW.move rfl rfl ?_
    refine RW.move rfl rfl ?_
    refine RW.nilChk rfl rfl ?_
    refine RW.fieldP fl53x1 rfl rfl ?_
    refine RW.load1 sc3 rfl rfl (fun w' hw' => hw'.base_cell h.c1 (by simp)) ?_
    refine RW.lss rfl rfl rfl ?_
    refine RW.nil (EX.seq ?_)
    -- mq: cond
    first | refine CW.condD rfl (fun hlt => ?_) (fun hlt => ?_) | refine CW.cond rfl (fun hlt => ?_) (fun hlt => ?_)
    · skip
      have hyl : y < bs.length := by omega
      obtain ⟨v, hv, hv64, hq⟩ := word_of ho hyl
      obtain ⟨ad, hA, _, hcell⟩ := h.rd.at_ hv
      have hd64 : v / 2 ^ (y % 64) < 2 ^ 64 := Nat.lt_of_le_of_lt (Nat.div_le_self _ _) hv64
      refine CW.skip (EX.seq (CW.seq (CW.block (CW.seq (CW.region ?_)))))
      refine RW.move rfl rfl ?_
      refine RW.nilChk rfl rfl ?_
      refine RW.fieldP fl53x0 rfl rfl ?_
      refine RW.load1 sc51 rfl rfl (fun w' hw' => hw'.base_cell h.c0 (by simp)) ?_
      refine RW.move rfl rfl ?_
      refine RW.quoN rfl rfl rfl (by omega) (by omega) (by omega) ?_
      refine RW.ixAddr (q := y / 64) sl51 rfl rfl rfl hA (by omega) (by omega) ?_
      refine RW.load1 sc54 rfl rfl (fun w' hw' => hw'.base_cell (hcell 0 _ rfl) (by simp)) ?_
      refine RW.move rfl rfl ?_
      refine RW.remN rfl rfl rfl (by omega) (by omega) ?_
      refine RW.shrN (r := ((v / 2 ^ (y % 64) : Nat) : Int)) rfl rfl rfl (by omega) (shr64 v y) ?_
      refine RW.assign rfl rfl ?_
      refine RW.nil (EX.seq (CW.seq (CW.region ?_)))
      refine RW.move rfl rfl ?_
      refine RW.neqI rfl rfl rfl ?_
      refine RW.nil (EX.seq ?_)
      -- mq: cond
      generalize hu : v / 2 ^ (y % 64) = u at *
      first | refine CW.condD rfl (fun hz => ?_) (fun hz => ?_) | refine CW.cond rfl (fun hz => ?_) (fun hz => ?_)
      · skip
        have hu0 : v / 2 ^ (y % 64) ≠ 0 := by rw [hu]; omega
        obtain ⟨h1, h2, h3⟩ := ho.rp.after_hit hv hxy hno hu0
        rw [hu] at h1 h2 h3
        refine CW.seq ?_
        -- mq: region
        refine CW.drawU [0, 1, 4, 5, 6, 7, 8] 1 [[(2, false, [3, 9, 10])]] (SH w [] []) mixed (by kernel_rfl) (fun _ hw => hw.drew) (fun _ h => (by first | trivial | exact h | exact h.ch | exact (h.rem Rem.head).ch | exact ((h.rem Rem.head).rem Rem.head).ch | exact (((h.rem Rem.head).rem Rem.head).rem Rem.head).ch)) ?_
        refine QuP.cons rfl (fun wq hq => (RW.move rfl rfl RW.jn)) ?_
        refine QuP.cons rfl (fun wq hq => (RW.move rfl rfl RW.jn)) ?_
        refine QuP.cons rfl (fun wq hq => (RW.move rfl rfl RW.jn)) ?_
        refine QuP.cons rfl (fun wq hq => (RW.nilChk rfl rfl RW.jn)) ?_
        refine QuP.cons rfl (fun wq hq => (RW.fieldP fl53x1 rfl rfl RW.jn)) ?_
        refine QuP.cons rfl (fun wq hq => (RW.load1 sc3 rfl rfl (fun w1 e1 => by subst e1; exact (hq.base_cell h.c1 (by simp))) RW.jn)) ?_
        refine QuP.cons rfl (fun wq hq => (RW.sub_ rfl rfl rfl (wrap64 (by omega) (by omega)) RW.jn)) ?_
        refine QuP.nil ?_
        refine UW.step [_] rfl (List.forall_mem_cons.2 ⟨?_, by simp⟩)
        refine RW.call rfl ca32 rfl (fun w' hw' => ctz_c w' (hg.ext hw'.ext) u hd64) ?_
        refine RW.st (fun _ => True) (fun _ h => .inr (by first | trivial | exact h | exact h.ch | exact (h.rem Rem.head).ch | exact ((h.rem Rem.head).rem Rem.head).ch | exact (((h.rem Rem.head).rem Rem.head).rem Rem.head).ch)) (fun _ h => trivial) ?_
        refine QuP.cons rfl (fun wq hq => (RW.add rfl rfl rfl (wrap64 (by omega) (by omega)) RW.jn)) ?_
        refine QuP.cons rfl (fun wq hq => (RW.min2 rfl rfl rfl RW.jn)) ?_
        refine QuP.cons rfl (fun wq hq => (RW.assign rfl rfl RW.jn)) ?_
        refine QuP.nil ?_
        refine UW.nil (EX.seq (CW.ret (EX.bkR (EX.seqR (EX.lpR (EX.bkR (EX.seqR ?_)))))))
        refine EX.fin1 Tryd.results29 rfl (fun wz hw => ?_)
        -- mq: done
        refine ⟨?_, hw.ext⟩
        rw [h1]
        congr 2
        omega
      · skip
        have hu0 : v / 2 ^ (y % 64) = 0 := by rw [hu]; omega
        have hm := ho.rp.after_miss hv hno hu0
        refine CW.skip (EX.bkN (EX.seq (CW.region ?_)))
        refine RW.move rfl rfl ?_
        refine RW.quoN rfl rfl rfl (by omega) (by omega) (by omega) ?_
        refine RW.add rfl rfl rfl (wrap64 (by omega) (by omega)) ?_
        refine RW.mul rfl rfl rfl (wrap64 (by omega) (by omega)) ?_
        refine RW.assign rfl rfl ?_
        refine RW.nil ?_
        -- mq: loopend
        refine EX.lpN ((y / 64 + 1) * 64) ⟨by omega, by omega, hm⟩ (by omega) (by repeat (first | exact Sub.nil | refine Sub.cons (by rfl) ?_)) (fun w' hw' => hw')
    · skip
      refine CW.exit (EX.seqE (EX.lpE (EX.bkE (EX.seq (CW.seq (CW.region ?_))))))
      refine RW.move rfl rfl ?_
      refine RW.nilChk rfl rfl ?_
      refine RW.fieldP fl53x1 rfl rfl ?_
      refine RW.load1 sc3 rfl rfl (fun w' hw' => hw'.base_cell h.c1 (by simp)) ?_
      refine RW.sub_ rfl rfl rfl (wrap64 (by omega) (by omega)) ?_
      refine RW.assign rfl rfl ?_
      refine RW.nil (EX.seq (CW.ret ?_))
      refine EX.fin1 Tryd.results29 rfl (fun wz hw => ?_)
      -- mq: done
      refine ⟨?_, hw.ext⟩
      rw [afterB_none (fun z h1 h2 => hno z h1 (by omega))]
      congr 2
      omega
theorem shlw (v y : Nat) : IntKind.u64.wrap ((v : Int) * 2 ^ min (63 - (y : Int) % 64).toNat IntKind.u64.bits) = ((v * 2 ^ (63 - y % 64) % 2 ^ 64 : Nat) : Int) := by
  have e : min (63 - (y : Int) % 64).toNat IntKind.u64.bits = 63 - y % 64 := by simp only [IntKind.bits]; omega
  rw [e]
  have : ((v : Int) * 2 ^ (63 - y % 64)) = ((v * 2 ^ (63 - y % 64) : Nat) : Int) := by simp
  rw [this]
  generalize v * 2 ^ (63 - y % 64) = u
  simp [IntKind.wrap, IntKind.bits, IntKind.signed]
theorem before_c (w : World) (g : Nat) (bs : List Bool) (i : SI) (ho : Okk bs i) (h : RdS w g bs.length i) (x : Nat) (hx : x < bs.length) :
    Calls Tryd.prog 31 [ptr g, .int .i64 (x : Int)].toArray w (fun e w' => e = .returned (.int .i64 (beforeB bs x : Int)) ∧ Ext [] w w') := by
  have hle := ho.le
  refine calls (n := 32) Tryd.func31 rfl Tryd.ntmps31 rfl ?_
  refine CW.sub (H' := SH w [] []) ?_ (Sub.refl _) (fun x hx => SH.start' _ _ hx)
  refine CW.seq (CW.region ?_)
  refine RW.assign rfl rfl ?_
  refine RW.nil (EX.seq (CW.seq (CW.seq (CW.region ?_))))
  refine RW.move rfl rfl ?_
  refine RW.sub_ rfl rfl rfl (wrap64 (by omega) (by omega)) ?_
  refine RW.assign rfl rfl ?_
  refine RW.nil (EX.seq (CW.block ?_))
  -- mq: loop
  refine CW.loop (ι := Nat) (fun y => [(0, ptr g), (1, .int .i64 ((y : Int) - 1))]) (fun _ => SH w [] []) (fun y => y ≤ x ∧ ∀ z, y ≤ z → z < x → gb bs z = false) (fun y => y) ?_ ?_
  · exact fun w hw => ⟨x, ⟨Nat.le_refl _, by intro z h1 h2; omega⟩, (by repeat (first | exact Sub.nil | refine Sub.cons (by rfl) ?_)), hw⟩
  · rintro y' ⟨hxy, hno⟩
    refine CW.seq (CW.seq (CW.region ?_))
    refine RW.move rfl rfl ?_
    refine RW.geq rfl rfl rfl ?_
    refine RW.nil (EX.seq ?_)
    -- mq: cond
    first | refine CW.condD rfl (fun hlt => ?_) (fun hlt => ?_) | refine CW.cond rfl (fun hlt => ?_) (fun hlt => ?_)
    · skip
      obtain ⟨y, rfl⟩ : ∃ y, y' = y + 1 := ⟨y' - 1, by omega⟩
      rw [show ((y + 1 : Nat) : Int) - 1 = (y : Int) by omega]
      have hyl : y < bs.length := by omega
      obtain ⟨v, hv, hv64, hq⟩ := word_of ho hyl
      obtain ⟨ad, hA, _, hcell⟩ := h.rd.at_ hv
      have hd64 : v * 2 ^ (63 - y % 64) % 2 ^ 64 < 2 ^ 64 := Nat.mod_lt _ (by decide)
      refine CW.skip (EX.seq (CW.seq (CW.block (CW.seq (CW.region ?_)))))
      refine RW.move rfl rfl ?_
      refine RW.nilChk rfl rfl ?_
      refine RW.fieldP fl53x0 rfl rfl ?_
      refine RW.load1 sc51 rfl rfl (fun w' hw' => hw'.base_cell h.c0 (by simp)) ?_
      refine RW.move rfl rfl ?_
      refine RW.quoN rfl rfl rfl (by omega) (by omega) (by omega) ?_
      refine RW.ixAddr (q := y / 64) sl51 rfl rfl rfl hA (by omega) (by omega) ?_
      refine RW.load1 sc54 rfl rfl (fun w' hw' => hw'.base_cell (hcell 0 _ rfl) (by simp)) ?_
      refine RW.move rfl rfl ?_
      refine RW.remN rfl rfl rfl (by omega) (by omega) ?_
      refine RW.sub_ rfl rfl rfl (wrap64 (by omega) (by omega)) ?_
      refine RW.shlN (r := ((v * 2 ^ (63 - y % 64) % 2 ^ 64 : Nat) : Int)) rfl rfl rfl (by omega) (shlw v y) ?_
      refine RW.assign rfl rfl ?_
      refine RW.nil (EX.seq (CW.seq (CW.region ?_)))
      refine RW.move rfl rfl ?_
      refine RW.neqI rfl rfl rfl ?_
      refine RW.nil (EX.seq ?_)
      -- mq: cond
      have hno' : ∀ z, y < z → z < x → gb bs z = false := fun z h1 h2 => hno z (by omega) h2
      have hhit := ho.rp.before_hit hv (show y < x by omega) hno'
      have hmiss := ho.rp.before_miss hv hno'
      generalize hu : v * 2 ^ (63 - y % 64) % 2 ^ 64 = u at *
      first | refine CW.condD rfl (fun hz => ?_) (fun hz => ?_) | refine CW.cond rfl (fun hz => ?_) (fun hz => ?_)
      · skip
        have h1 := hhit (by omega)
        have hL := Lib.bitLen_le u 64 (by decide) hd64
        refine CW.seq (CW.region ?_)
        refine RW.move rfl rfl ?_
        refine RW.move rfl rfl ?_
        refine RW.call rfl ca33 rfl (fun w' hw' => clz_c w' u hd64) ?_
        refine RW.sub_ rfl rfl rfl (wrap64 (by omega) (by omega)) ?_
        refine RW.assign rfl rfl ?_
        refine RW.nil (EX.seq (CW.ret (EX.bkR (EX.seqR (EX.lpR (EX.bkR (EX.seqR ?_)))))))
        refine EX.fin1 Tryd.results31 rfl (fun wz hw => ?_)
        -- mq: done
        refine ⟨?_, hw.ext⟩
        rw [h1]
      · skip
        have hm := hmiss (by omega)
        refine CW.skip (EX.bkN (EX.seq (CW.region ?_)))
        refine RW.move rfl rfl ?_
        refine RW.quoN rfl rfl rfl (by omega) (by omega) (by omega) ?_
        refine RW.mul rfl rfl rfl (wrap64 (by omega) (by omega)) ?_
        refine RW.sub_ rfl rfl rfl (wrap64 (by omega) (by omega)) ?_
        refine RW.assign rfl rfl ?_
        refine RW.nil ?_
        -- mq: loopend
        refine EX.lpN (64 * (y / 64)) ⟨by omega, hm⟩ (by omega) (Sub.cons (by rfl) (Sub.cons ?_ Sub.nil)) (fun w' hw' => hw')
        show some _ = some _
        congr 2
        omega
    · skip
      obtain rfl : y' = 0 := by omega
      refine CW.exit (EX.seqE (EX.lpE (EX.bkE (EX.seq (CW.seq (CW.region ?_))))))
      refine RW.assign rfl rfl ?_
      refine RW.nil (EX.seq (CW.ret ?_))
      refine EX.fin1 Tryd.results31 rfl (fun wz hw => ?_)
      -- mq: done
      refine ⟨?_, hw.ext⟩
      rw [beforeB_none (fun z h2 => hno z (Nat.zero_le _) h2)]
      rfl
end Go.Proofs.YthfbdbahggklnaaDoor.Mq
