/- walks: the search, place, Place, Place of the reference; FlowPlaces -/
import Derived.Test.YtmdmdlfdijdhgaaPlace2
import Derived.Laws.Shifts
namespace Go.Proofs.Ytmdmdlfdijdhgaa.Mq
open Go Go.RowKit Go.Proofs

section
variable {P : Program} {n : Nat} {ops : Array Oper} {Q : Post} {rest : List Oper} {l : Fr} {H : World → Prop} {d : Nat} {ty : TypeId} {pos : String} {af : Array Edge}
theorem RW.shr_ {xt yt : TypeId} {x y : Operand} {k k2 : IntKind} {a b r : Int} (hd : Nat.blt d n = true) (hx : ev l x = some (.int k a)) (hy : ev l y = some (.int k2 b)) (h0 : 0 ≤ b) (hr : a / 2 ^ min b.toNat k.bits = r)
    (h : RW P n ops Q rest ((d, .int k r) :: l) H) : RW P n ops Q (⟨some d, .binOp .shr xt x y yt, ty, pos, af, none⟩ :: rest) l H :=
  RW.val _ hd (fun ρ w hρ => by simp [execOp, hρ x _ hx, hρ y _ hy, eqGuard, binOp, shift_shr_any k k2 a b h0, hr]) h
end
theorem search_c (w : World) (n K : Nat) (f : FuncId) (cap : List Value) (p : Nat → Bool) (hn : n ≤ 1000000) (hf : CaT Try.prog f)
    (hc : ∀ w', Ext [] w w' → ∀ i : Nat, i < n → Calls Try.prog f (([] : List Value) ++ [Value.int .i64 (i : Int)] ++ cap).toArray w' (fun e w'' => e = .returned (.bool (p i)) ∧ Ext [] w' w''))
    (hp : ∀ i j, i ≤ j → j < n → p i = true → p j = true) (hK : K ≤ n) (h1 : ∀ j, j < K → p j = false) (h2 : K < n → p K = true) :
    Calls Try.prog 44 [.int .i64 (n : Int), .func (.func f) [].toArray cap.toArray].toArray w (fun e w' => e = .returned (.int .i64 (K : Int)) ∧ Ext [] w w') := by
  refine calls (n := 26) Try.func44 rfl Try.ntmps44 rfl ?_
  refine CW.sub (H' := SH w [] []) ?_ (Sub.refl _) (fun x hx => SH.start' _ _ hx)
  refine CW.seq (CW.region ?_)
  refine RW.assign rfl rfl ?_
  refine RW.nil (EX.seq (CW.seq (CW.region ?_)))
  refine RW.move rfl rfl ?_
  refine RW.assign rfl rfl ?_
  refine RW.assign rfl rfl ?_
  refine RW.nil (EX.seq (CW.seq (CW.block ?_)))
  -- mq: loop
  refine CW.loop (ι := Nat × Nat) (fun i => [(1, .func (.func f) [].toArray cap.toArray), (5, .int .i64 (i.1 : Int)), (6, .int .i64 (i.2 : Int))]) (fun _ => SH w [] []) (fun i => i.1 ≤ i.2 ∧ i.2 ≤ n ∧ (∀ t, t < i.1 → p t = false) ∧ (∀ t, i.2 ≤ t → t < n → p t = true)) (fun i => i.2 - i.1) ?_ ?_
  · exact fun w hw => ⟨(0, n), ⟨Nat.zero_le _, Nat.le_refl _, by simp, fun t h1 h2 => by omega⟩, (by repeat (first | exact Sub.nil | refine Sub.cons (by rfl) ?_)), hw⟩
  · rintro ⟨i, j⟩ ⟨hij, hjn, hlo, hhi⟩
    dsimp only at hij hjn hlo hhi ⊢
    refine CW.seq (CW.seq (CW.region ?_))
    refine RW.move rfl rfl ?_
    refine RW.move rfl rfl ?_
    refine RW.lss rfl rfl rfl ?_
    refine RW.nil (EX.seq ?_)
    -- mq: cond
    first | refine CW.condD rfl (fun hlt => ?_) (fun hlt => ?_) | refine CW.cond rfl (fun hlt => ?_) (fun hlt => ?_)
    · skip
      refine CW.skip (EX.seq (CW.block (CW.seq (CW.region ?_))))
      refine RW.move rfl rfl ?_
      refine RW.move rfl rfl ?_
      refine RW.add rfl rfl rfl (wrap64 (by omega) (by omega)) ?_
      refine RW.convI rfl rfl Try.underlying3 Try.underlying73 (r := (i : Int) + (j : Int)) (by simp [IntKind.wrap, IntKind.bits, IntKind.signed]; omega) ?_
      refine RW.shr_ rfl rfl rfl (by decide) (r := (((i + j) / 2 : Nat) : Int)) (by rw [show min (1 : Int).toNat IntKind.u64.bits = 1 from rfl]; omega) ?_
      refine RW.convI rfl rfl Try.underlying73 Try.underlying3 (wrap64 (by omega) (by omega)) ?_
      refine RW.assign rfl rfl ?_
      refine RW.nil (EX.seq (CW.seq ?_))
      -- mq: region
      generalize hm : (i + j) / 2 = m
      refine CW.region ?_
      refine RW.move rfl rfl ?_
      refine RW.move rfl rfl ?_
      -- mq: op 2: ('Op.call', ('Call.mk', ('Callee.value', ('Operand.tmp', '18')), ('arr', ('Operand.tmp', '19')), ('arr', '3'))) -> slot 20 ("search.go:65")
      refine RW.callV rfl rfl hf rfl (fun w' hw' => hc w' hw'.ext m (by omega)) ?_
      refine RW.not_ rfl rfl ?_
      refine RW.nil (EX.seq ?_)
      -- mq: cond
      first | refine CW.condD rfl (fun hpm => ?_) (fun hpm => ?_) | refine CW.cond rfl (fun hpm => ?_) (fun hpm => ?_)
      · skip
        have hpm : p m = false := by simpa using hpm
        refine CW.region ?_
        refine RW.move rfl rfl ?_
        refine RW.add rfl rfl rfl (wrap64 (by omega) (by omega)) ?_
        refine RW.assign rfl rfl ?_
        refine RW.nil (EX.bkN ?_)
        -- mq: loopend
        refine EX.lpN (m + 1, j) ⟨by omega, hjn, fun t ht => ?_, hhi⟩ (by simp; omega) (by repeat (first | exact Sub.nil | refine Sub.cons (by rfl) ?_)) (fun _ h => h)
        cases hpt : p t with
        | false => rfl
        | true => rw [hp t m (by omega) (by omega) hpt] at hpm; cases hpm
      · skip
        have hpm : p m = true := by simpa using hpm
        refine CW.region ?_
        refine RW.move rfl rfl ?_
        refine RW.assign rfl rfl ?_
        refine RW.nil (EX.bkN ?_)
        -- mq: loopend
        exact EX.lpN (i, m) ⟨by omega, by omega, hlo, fun t h1 h2 => hp m t h1 h2 hpm⟩ (by simp; omega) (by repeat (first | exact Sub.nil | refine Sub.cons (by rfl) ?_)) (fun _ h => h)
    · skip
      refine CW.exit (EX.seqE (EX.lpE (EX.bkE (EX.seq (CW.seq (CW.region ?_))))))
      refine RW.move rfl rfl ?_
      refine RW.assign rfl rfl ?_
      refine RW.nil (EX.seq (CW.ret ?_))
      refine EX.fin1 Try.results44 rfl (fun wz hw => ?_)
      -- mq: done
      have hie : i = j := by omega
      subst hie
      have : K = i := by
        rcases Nat.lt_trichotomy K i with h | h | h
        · have := hlo K h
          rw [h2 (by omega)] at this
          cases this
        · exact h
        · have := h1 i h
          rw [hhi i (Nat.le_refl _) (by omega)] at this
          cases this
      exact ⟨by rw [this], hw.ext⟩
theorem clos_c (w : World) (F : Nat → Prop) (A : Option Addr) (n c : Nat) (rows : List RowL) (hr : Rd EInt w F A n c (sumsL rows)) (g2 g3 : Nat) (off : Int) (h2 : w.cell? ⟨g2, 0, none⟩ = some (.slice A n c)) (h3 : w.cell? ⟨g3, 0, none⟩ = some (.int .i64 off)) (i : Nat) (hi : i < n) :
    Calls Try.prog 45 (([] : List Value) ++ [Value.int .i64 (i : Int)] ++ [Value.pointer (some ⟨g2, 0, none⟩), Value.pointer (some ⟨g3, 0, none⟩)]).toArray w (fun e w'' => e = .returned (.bool (decide (off < (cnt rows (i + 1) : Int)))) ∧ Ext [] w w'') := by
  have hl := hr.len
  rw [sumsL_length] at hl
  obtain ⟨ad, hA, _, hcell⟩ := hr.at_ (sumsL_get (rows := rows) (k := i) (by omega))
  refine calls (n := 11) Try.func45 rfl Try.ntmps45 rfl ?_
  refine CW.sub (H' := SH w [] []) ?_ (Sub.refl _) (fun x hx => SH.start' _ _ hx)
  refine CW.seq (CW.region ?_)
  refine RW.assign rfl rfl ?_
  refine RW.nil (EX.seq (CW.seq ?_))
  -- mq: region
  refine CW.drawq mixed (by kernel_rfl) (fun _ hw => hw.drew) ?_
  refine DRq.cons rfl (RW.load1 sc63 rfl rfl (fun w' hw' => hw'.base_cell h2 (by simp)) RW.jn) ?_
  refine DRq.cons rfl (RW.move rfl rfl RW.jn) ?_
  refine DRq.cons rfl (RW.ixAddr (q := i) sl63 rfl rfl rfl (by first | rfl | assumption) (by omega) (by omega) RW.jn) ?_
  refine DRq.cons rfl (RW.load1 sc3 rfl rfl (fun w' hw' => hw'.base_cell (hcell 0 _ rfl) (by simp)) RW.jn) ?_
  refine DRq.cons rfl (RW.load1 sc3 rfl rfl (fun w' hw' => hw'.base_cell h3 (by simp)) RW.jn) ?_
  refine DRq.cons rfl (RW.gtr rfl rfl rfl RW.jn) ?_
  refine DRq.cons rfl (RW.assign rfl rfl RW.jn) ?_
  refine DRq.nil (EX.seq (CW.ret ?_))
  refine EX.fin1 Try.results45 rfl (fun wz hw => ?_)
  -- mq: done
  exact ⟨rfl, hw.ext⟩
/-- the first row beyond -/
def IsK (rows : List RowL) (off : Int) (k : Nat) : Prop := k ≤ rows.length ∧ (∀ j, j < k → (cnt rows (j + 1) : Int) ≤ off) ∧ (k < rows.length → off < (cnt rows (k + 1) : Int))
theorem isK_ex (rows : List RowL) (off : Int) : ∃ k, IsK rows off k := by
  have : ∀ m, m ≤ rows.length → ∃ k, k ≤ m ∧ (∀ j, j < k → (cnt rows (j + 1) : Int) ≤ off) ∧ (k < m → off < (cnt rows (k + 1) : Int)) := by
    intro m
    induction m with
    | zero => exact fun _ => ⟨0, Nat.le_refl _, by simp, by simp⟩
    | succ m ih =>
      intro hm
      obtain ⟨k, h1, h2, h3⟩ := ih (by omega)
      by_cases hk : k < m
      · exact ⟨k, by omega, h2, fun _ => h3 hk⟩
      · have hk : k = m := by omega
        subst hk
        by_cases ho : off < (cnt rows (k + 1) : Int)
        · exact ⟨k, by omega, h2, fun _ => ho⟩
        · refine ⟨k + 1, Nat.le_refl _, fun j hj => ?_, fun h => by omega⟩
          by_cases hjk : j = k
          · subst hjk; omega
          · exact h2 j (by omega)
  exact this rows.length (Nat.le_refl _)
noncomputable def findK (rows : List RowL) (off : Int) : Nat := Classical.choose (isK_ex rows off)
theorem findK_is (rows : List RowL) (off : Int) : IsK rows off (findK rows off) := Classical.choose_spec (isK_ex rows off)
theorem isK_eq {rows : List RowL} {off : Int} {k : Nat} (h : IsK rows off k) : k = findK rows off := by
  obtain ⟨a1, a2, a3⟩ := h
  obtain ⟨b1, b2, b3⟩ := findK_is rows off
  rcases Nat.lt_trichotomy k (findK rows off) with h | h | h
  · have := b2 k h; have := a3 (by omega); omega
  · exact h
  · have := a2 _ h; have := b3 (by omega); omega
noncomputable def placeR (rows : List RowL) (off : Int) : PosV :=
  if rows.length = 0 then ⟨0, 0⟩ else if findK rows (max 0 off) = rows.length then ⟨((rows.length - 1 : Nat) : Int), min (max 0 off) (cnt rows rows.length : Int) - (cnt rows (rows.length - 1) : Int)⟩
  else ⟨(findK rows (max 0 off) : Int), max 0 off - (cnt rows (findK rows (max 0 off)) : Int)⟩
theorem place_c (w : World) (F : Nat → Prop) (A : Option Addr) (n c : Nat) (rows : List RowL) (hr : Rd EInt w F A n c (sumsL rows)) (off : Int) (ho : -9223372036854775808 ≤ off ∧ off ≤ 9223372036854775807) (hn : n ≤ 1000000) (hm : sumLen rows ≤ 1000000) :
    Calls Try.prog 38 [.slice A n c, .int .i64 off].toArray w (fun e w' => e = .returned (.agg (placeR rows off).enc.toArray) ∧ Ext [] w w') := by
  have hl := hr.len
  rw [sumsL_length] at hl
  refine calls (n := 35) Try.func38 rfl Try.ntmps38 rfl ?_
  refine CW.sub (H' := SH w [] []) ?_ (Sub.refl _) (fun x hx => SH.start' _ _ hx)
  refine CW.seq (CW.region ?_)
  refine RW.box1 rfl rfl rfl (fun g2 hg2 hf2 => ?_)
  refine RW.box1 rfl rfl rfl (fun g3 hg3 hf3 => ?_)
  refine RW.allocA ag47 rfl (fun g4 hg4 hf4 => ?_)
  refine RW.nil (EX.seq (CW.seq (CW.seq (CW.region ?_))))
  refine RW.loadB1 sc63 rfl rfl (by first | exact Has.head | exact Has.tail Has.head | exact Has.tail (Has.tail Has.head) | exact Has.tail (Has.tail (Has.tail Has.head)) | exact Has.tail (Has.tail (Has.tail (Has.tail Has.head))) | exact Has.tail (Has.tail (Has.tail (Has.tail (Has.tail Has.head)))) | exact Has.tail (Has.tail (Has.tail (Has.tail (Has.tail (Has.tail Has.head)))))) rfl ?_
  refine RW.lenSl Try.underlying63 rfl rfl ?_
  refine RW.eqlI rfl rfl rfl ?_
  refine RW.nil (EX.seq ?_)
  -- mq: cond
  first | refine CW.condD rfl (fun h0 => ?_) (fun h0 => ?_) | refine CW.cond rfl (fun h0 => ?_) (fun h0 => ?_)
  · skip
    refine CW.seq (CW.region ?_)
    refine RW.buildS bu47 rfl rfl rfl ?_
    refine RW.storeA ag47 rfl rfl (by first | exact Upd.head | exact Upd.tail Upd.head | exact Upd.tail (Upd.tail Upd.head) | exact Upd.tail (Upd.tail (Upd.tail Upd.head)) | exact Upd.tail (Upd.tail (Upd.tail (Upd.tail Upd.head))) | exact Upd.tail (Upd.tail (Upd.tail (Upd.tail (Upd.tail Upd.head)))) | exact Upd.tail (Upd.tail (Upd.tail (Upd.tail (Upd.tail (Upd.tail Upd.head)))))) (by first | rfl | exact Enc.len _ _) (by repeat (first | exact Ones.nil | exact Enc.ones _ _ | refine Ones.cons rfl ?_)) (by first | exact Nat.le_of_ble_eq_true rfl | (simp only [Enc.len]; decide)) ?_
    refine RW.nil (EX.seq (CW.ret (EX.seqR ?_)))
    refine EX.fin1' Try.results38 (RV.cellA ag47 rfl (by first | exact Has.head | exact Has.tail Has.head | exact Has.tail (Has.tail Has.head) | exact Has.tail (Has.tail (Has.tail Has.head)) | exact Has.tail (Has.tail (Has.tail (Has.tail Has.head))) | exact Has.tail (Has.tail (Has.tail (Has.tail (Has.tail Has.head)))) | exact Has.tail (Has.tail (Has.tail (Has.tail (Has.tail (Has.tail Has.head)))))) rfl rfl) (fun wz hw => ?_)
    -- mq: done
    exact ⟨by rw [placeR, if_pos (by omega)]; rfl, hw.ext⟩
  · skip
    refine CW.skip (EX.seq (CW.seq (CW.region ?_)))
    refine RW.loadB1 sc3 rfl rfl (by first | exact Has.head | exact Has.tail Has.head | exact Has.tail (Has.tail Has.head) | exact Has.tail (Has.tail (Has.tail Has.head)) | exact Has.tail (Has.tail (Has.tail (Has.tail Has.head))) | exact Has.tail (Has.tail (Has.tail (Has.tail (Has.tail Has.head)))) | exact Has.tail (Has.tail (Has.tail (Has.tail (Has.tail (Has.tail Has.head)))))) rfl ?_
    refine RW.max2 rfl rfl rfl ?_
    refine RW.store1 sc3 rfl rfl (by first | exact Upd.head | exact Upd.tail Upd.head | exact Upd.tail (Upd.tail Upd.head) | exact Upd.tail (Upd.tail (Upd.tail Upd.head)) | exact Upd.tail (Upd.tail (Upd.tail (Upd.tail Upd.head))) | exact Upd.tail (Upd.tail (Upd.tail (Upd.tail (Upd.tail Upd.head)))) | exact Upd.tail (Upd.tail (Upd.tail (Upd.tail (Upd.tail (Upd.tail Upd.head)))))) rfl (by first | exact Nat.le_of_ble_eq_true rfl | simp) ?_
    refine RW.nil (EX.seq (CW.seq (CW.region ?_)))
    refine RW.loadB1 sc63 rfl rfl (by first | exact Has.head | exact Has.tail Has.head | exact Has.tail (Has.tail Has.head) | exact Has.tail (Has.tail (Has.tail Has.head)) | exact Has.tail (Has.tail (Has.tail (Has.tail Has.head))) | exact Has.tail (Has.tail (Has.tail (Has.tail (Has.tail Has.head)))) | exact Has.tail (Has.tail (Has.tail (Has.tail (Has.tail (Has.tail Has.head)))))) rfl ?_
    refine RW.lenSl Try.underlying63 rfl rfl ?_
    -- mq: op 2: ('Op.makeFunc', ('Fn.func', '45'), ('arr',), ('arr', ('Operand.tmp', '2'), ('Operand.tmp', '3'))) -> slot 14 ("flow.go:130")
    refine RW.makeFunc rfl rfl rfl ?_
    -- mq: op 3: ('Op.call', ('Call.mk', ('Callee.value', ('Operand.func', '44')), ('arr', ('Operand.tmp', '13'), ('Operand.tmp', '14')), ('arr', '3', '26'))) -> slot 15 ("flow.go:130")
    have hkis := findK_is rows (max 0 off)
    generalize hk : findK rows (max 0 off) = k at hkis
    obtain ⟨k1, k2, k3⟩ := hkis
    have hkn : k ≤ n := by omega
    refine RW.call rfl ca44 rfl (fun w' hw' => search_c w' n k 45 [.pointer (some ⟨g2, 0, none⟩), .pointer (some ⟨g3, 0, none⟩)] (fun i => decide (max 0 off < (cnt rows (i + 1) : Int))) hn ca45 (fun w'' he i hi => ?_) (fun i j hij hj hi => ?_) hkn (fun j hj => ?_) (fun hlt => ?_)) ?_
    · have hww := hw'.keep he
      exact clos_c w'' F A n c rows (hr.ext hww.ext (by simp)) g2 g3 (max 0 off) (hww.blk_cell (o := 0) (Has.tail (Has.tail Has.head)) rfl) (hww.blk_cell (o := 0) (Has.tail Has.head) rfl) i hi
    · have := cnt_mono (rows := rows) (j := i + 1) (k := j + 1) (by omega)
      simp only [decide_eq_true_eq] at hi ⊢
      omega
    · have := k2 j hj
      simp only [decide_eq_false_iff_not]
      omega
    · have := k3 (by omega)
      simpa using this
    refine RW.assign rfl rfl ?_
    refine RW.nil (EX.seq (CW.seq (CW.seq (CW.region ?_))))
    refine RW.move rfl rfl ?_
    refine RW.loadB1 sc63 rfl rfl (by first | exact Has.head | exact Has.tail Has.head | exact Has.tail (Has.tail Has.head) | exact Has.tail (Has.tail (Has.tail Has.head)) | exact Has.tail (Has.tail (Has.tail (Has.tail Has.head))) | exact Has.tail (Has.tail (Has.tail (Has.tail (Has.tail Has.head)))) | exact Has.tail (Has.tail (Has.tail (Has.tail (Has.tail (Has.tail Has.head)))))) rfl ?_
    refine RW.lenSl Try.underlying63 rfl rfl ?_
    refine RW.eqlI rfl rfl rfl ?_
    refine RW.nil (EX.seq ?_)
    -- mq: cond
    first | refine CW.condD rfl (fun h5 => ?_) (fun h5 => ?_) | refine CW.cond rfl (fun h5 => ?_) (fun h5 => ?_)
    · skip
      have hkn2 : k = n := by omega
      subst hkn2
      obtain ⟨ad, hA, _, hcell⟩ := hr.at_ (sumsL_get (rows := rows) (k := k - 1) (by omega))
      have hc1 := cnt_le rows (k - 1)
      have hc2 := cnt_le rows k
      refine CW.seq (CW.region ?_)
      refine RW.move rfl rfl ?_
      refine RW.sub_ rfl rfl rfl (wrap64 (by omega) (by omega)) ?_
      refine RW.assign rfl rfl ?_
      refine RW.nil (EX.seq ?_)
      -- mq: draw op 4: ('Op.load', '3', ('Operand.tmp', '25')) -> slot 26 ("flow.go:133")
      refine CW.drawS [true, true, true, true, true, true, false] 0 (SH w [] [blk g4 [.int .i64 0, .int .i64 0] 47, blk g3 [.int .i64 (max 0 off)] 3, blk g2 [.slice A k c] 63]) mixed (by kernel_rfl) (fun _ hw => hw.drew) (fun _ h => by first | exact h | (have h1 := h.rem Rem.head; first | exact h1 | (have h2 := h1.rem Rem.head; first | exact h2 | (have h3 := h2.rem Rem.head; exact h3)))) (by repeat (first | exact NoP.fin | exact NoP.jn | refine NoP.sq ?_ | refine NoP.bk ?_ | refine NoP.lp ?_)) ?_
      refine QuW.cons rfl (fun wq hq => (RW.load1 sc3 rfl rfl (fun w1 e1 => by subst e1; exact (hq.blk_cell (o := 0) (Has.tail Has.head) rfl)) RW.jn)) ?_
      refine QuW.cons rfl (fun wq hq => (RW.load1 sc63 rfl rfl (fun w1 e1 => by subst e1; exact (hq.blk_cell (o := 0) (Has.tail (Has.tail Has.head)) rfl)) RW.jn)) ?_
      refine QuW.cons rfl (fun wq hq => (RW.move rfl rfl RW.jn)) ?_
      refine QuW.cons rfl (fun wq hq => (RW.ixAddr (q := k - 1) sl63 rfl rfl rfl (by first | rfl | assumption) (by omega) (by omega) RW.jn)) ?_
      refine QuW.cons rfl (fun wq hq => (RW.load1 sc3 rfl rfl (fun w1 e1 => by subst e1; exact (hq.base_cell (hcell 0 _ rfl) (by simp))) RW.jn)) ?_
      refine QuW.cons rfl (fun wq hq => (RW.min2 rfl rfl rfl RW.jn)) ?_
      refine QuW.skip ?_
      refine QuW.nil ?_
      refine SpW.hard ?_
      refine RW.store1 sc3 rfl rfl (by first | exact Upd.head | exact Upd.tail Upd.head | exact Upd.tail (Upd.tail Upd.head) | exact Upd.tail (Upd.tail (Upd.tail Upd.head)) | exact Upd.tail (Upd.tail (Upd.tail (Upd.tail Upd.head))) | exact Upd.tail (Upd.tail (Upd.tail (Upd.tail (Upd.tail Upd.head)))) | exact Upd.tail (Upd.tail (Upd.tail (Upd.tail (Upd.tail (Upd.tail Upd.head)))))) rfl (by first | exact Nat.le_of_ble_eq_true rfl | simp) ?_
      refine RW.nil (EX.seq (CW.seq ?_))
      -- mq: draw op 2: ('Op.load', '63', ('Operand.tmp', '2')) -> slot 30 ("flow.go:135")
      rw [show (k : Int) - 1 = ((k - 1 : Nat) : Int) by omega, show k - 1 + 1 = k by omega]
      refine CW.drawS [true, true, true, true, false, false, false, false] 3 (SH w [] [blk g4 [.int .i64 0, .int .i64 0] 47, blk g3 [.int .i64 (min (max 0 off) (cnt rows k : Int))] 3, blk g2 [.slice A k c] 63]) mixed (by kernel_rfl) (fun _ hw => hw.drew) (fun _ h => by first | exact h | (have h1 := h.rem Rem.head; first | exact h1 | (have h2 := h1.rem Rem.head; first | exact h2 | (have h3 := h2.rem Rem.head; exact h3)))) (by repeat (first | exact NoP.fin | exact NoP.jn | refine NoP.sq ?_ | refine NoP.bk ?_ | refine NoP.lp ?_)) ?_
      refine QuW.cons rfl (fun wq hq => (RW.move rfl rfl RW.jn)) ?_
      refine QuW.cons rfl (fun wq hq => (RW.load1 sc3 rfl rfl (fun w1 e1 => by subst e1; exact (hq.blk_cell (o := 0) (Has.tail Has.head) rfl)) RW.jn)) ?_
      refine QuW.cons rfl (fun wq hq => (RW.load1 sc63 rfl rfl (fun w1 e1 => by subst e1; exact (hq.blk_cell (o := 0) (Has.tail (Has.tail Has.head)) rfl)) RW.jn)) ?_
      refine QuW.cons rfl (fun wq hq => (RW.move rfl rfl RW.jn)) ?_
      refine QuW.skip ?_
      refine QuW.skip ?_
      refine QuW.skip ?_
      refine QuW.skip ?_
      refine QuW.nil ?_
      refine SpW.soft ?_
      -- mq: at
      refine RW.call rfl ca42 rfl (fun w' hw' => ahead_c w' F A k c rows (hr.ext hw'.ext (by simp)) (k - 1) (by omega) hn) ?_
      refine RW.sp1 (fun _ h => by first | exact h | (have h1 := h.rem Rem.head; first | exact h1 | (have h2 := h1.rem Rem.head; first | exact h2 | (have h3 := h2.rem Rem.head; exact h3)))) ?_
      refine SpW.soft ?_
      refine RW.sub_ rfl rfl rfl (wrap64 (by omega) (by omega)) ?_
      refine RW.sp1 (fun _ h => by first | exact h | (have h1 := h.rem Rem.head; first | exact h1 | (have h2 := h1.rem Rem.head; first | exact h2 | (have h3 := h2.rem Rem.head; exact h3)))) ?_
      refine SpW.soft ?_
      refine RW.buildS bu47 rfl rfl rfl ?_
      refine RW.sp1 (fun _ h => by first | exact h | (have h1 := h.rem Rem.head; first | exact h1 | (have h2 := h1.rem Rem.head; first | exact h2 | (have h3 := h2.rem Rem.head; exact h3)))) ?_
      refine SpW.hard ?_
      refine RW.storeA ag47 rfl rfl (by first | exact Upd.head | exact Upd.tail Upd.head | exact Upd.tail (Upd.tail Upd.head) | exact Upd.tail (Upd.tail (Upd.tail Upd.head)) | exact Upd.tail (Upd.tail (Upd.tail (Upd.tail Upd.head))) | exact Upd.tail (Upd.tail (Upd.tail (Upd.tail (Upd.tail Upd.head)))) | exact Upd.tail (Upd.tail (Upd.tail (Upd.tail (Upd.tail (Upd.tail Upd.head)))))) (by first | rfl | exact Enc.len _ _) (by repeat (first | exact Ones.nil | exact Enc.ones _ _ | refine Ones.cons rfl ?_)) (by first | exact Nat.le_of_ble_eq_true rfl | (simp only [Enc.len]; decide)) ?_
      refine RW.nil (EX.seq (CW.ret ?_))
      refine EX.fin1' Try.results38 (RV.cellA ag47 rfl (by first | exact Has.head | exact Has.tail Has.head | exact Has.tail (Has.tail Has.head) | exact Has.tail (Has.tail (Has.tail Has.head)) | exact Has.tail (Has.tail (Has.tail (Has.tail Has.head))) | exact Has.tail (Has.tail (Has.tail (Has.tail (Has.tail Has.head)))) | exact Has.tail (Has.tail (Has.tail (Has.tail (Has.tail (Has.tail Has.head)))))) rfl rfl) (fun wz hw => ?_)
      -- mq: done
      refine ⟨?_, hw.ext⟩
      rw [placeR, if_neg (by omega), hk, hl, if_pos rfl]
      rfl
    · skip
      have hc1 := cnt_le rows k
      refine CW.skip (EX.seq (CW.seq ?_))
      -- mq: draw op 4: ('Op.call', ('Call.mk', ('Callee.value', ('Operand.func', '42')), ('arr', ('Operand.tmp', '30'), ('Operand.tmp', '31')), ('arr', '63', '3'))) -> slot 32 ("flow.go:135")
      refine CW.drawS [true, true, true, true, false, false, false, false] 3 (SH w [] [blk g4 [.int .i64 0, .int .i64 0] 47, blk g3 [.int .i64 (max 0 off)] 3, blk g2 [.slice A n c] 63]) mixed (by kernel_rfl) (fun _ hw => hw.drew) (fun _ h => by first | exact h | (have h1 := h.rem Rem.head; first | exact h1 | (have h2 := h1.rem Rem.head; first | exact h2 | (have h3 := h2.rem Rem.head; exact h3)))) (by repeat (first | exact NoP.fin | exact NoP.jn | refine NoP.sq ?_ | refine NoP.bk ?_ | refine NoP.lp ?_)) ?_
      refine QuW.cons rfl (fun wq hq => (RW.move rfl rfl RW.jn)) ?_
      refine QuW.cons rfl (fun wq hq => (RW.load1 sc3 rfl rfl (fun w1 e1 => by subst e1; exact (hq.blk_cell (o := 0) (Has.tail Has.head) rfl)) RW.jn)) ?_
      refine QuW.cons rfl (fun wq hq => (RW.load1 sc63 rfl rfl (fun w1 e1 => by subst e1; exact (hq.blk_cell (o := 0) (Has.tail (Has.tail Has.head)) rfl)) RW.jn)) ?_
      refine QuW.cons rfl (fun wq hq => (RW.move rfl rfl RW.jn)) ?_
      refine QuW.skip ?_
      refine QuW.skip ?_
      refine QuW.skip ?_
      refine QuW.skip ?_
      refine QuW.nil ?_
      refine SpW.soft ?_
      -- mq: at
      refine RW.call rfl ca42 rfl (fun w' hw' => ahead_c w' F A n c rows (hr.ext hw'.ext (by simp)) k (by omega) hn) ?_
      refine RW.sp1 (fun _ h => by first | exact h | (have h1 := h.rem Rem.head; first | exact h1 | (have h2 := h1.rem Rem.head; first | exact h2 | (have h3 := h2.rem Rem.head; exact h3)))) ?_
      refine SpW.soft ?_
      refine RW.sub_ rfl rfl rfl (wrap64 (by omega) (by omega)) ?_
      refine RW.sp1 (fun _ h => by first | exact h | (have h1 := h.rem Rem.head; first | exact h1 | (have h2 := h1.rem Rem.head; first | exact h2 | (have h3 := h2.rem Rem.head; exact h3)))) ?_
      refine SpW.soft ?_
      refine RW.buildS bu47 rfl rfl rfl ?_
      refine RW.sp1 (fun _ h => by first | exact h | (have h1 := h.rem Rem.head; first | exact h1 | (have h2 := h1.rem Rem.head; first | exact h2 | (have h3 := h2.rem Rem.head; exact h3)))) ?_
      refine SpW.hard ?_
      refine RW.storeA ag47 rfl rfl (by first | exact Upd.head | exact Upd.tail Upd.head | exact Upd.tail (Upd.tail Upd.head) | exact Upd.tail (Upd.tail (Upd.tail Upd.head)) | exact Upd.tail (Upd.tail (Upd.tail (Upd.tail Upd.head))) | exact Upd.tail (Upd.tail (Upd.tail (Upd.tail (Upd.tail Upd.head)))) | exact Upd.tail (Upd.tail (Upd.tail (Upd.tail (Upd.tail (Upd.tail Upd.head)))))) (by first | rfl | exact Enc.len _ _) (by repeat (first | exact Ones.nil | exact Enc.ones _ _ | refine Ones.cons rfl ?_)) (by first | exact Nat.le_of_ble_eq_true rfl | (simp only [Enc.len]; decide)) ?_
      refine RW.nil (EX.seq (CW.ret ?_))
      refine EX.fin1' Try.results38 (RV.cellA ag47 rfl (by first | exact Has.head | exact Has.tail Has.head | exact Has.tail (Has.tail Has.head) | exact Has.tail (Has.tail (Has.tail Has.head)) | exact Has.tail (Has.tail (Has.tail (Has.tail Has.head))) | exact Has.tail (Has.tail (Has.tail (Has.tail (Has.tail Has.head)))) | exact Has.tail (Has.tail (Has.tail (Has.tail (Has.tail (Has.tail Has.head)))))) rfl rfl) (fun wz hw => ?_)
      -- mq: done
      refine ⟨?_, hw.ext⟩
      rw [placeR, if_neg (by omega), hk, if_neg (by omega)]
      rfl
theorem Place_c (w : World) (F : Nat → Prop) (A : Option Addr) (n c : Nat) (rows : List RowL) (hr : RdRows w F A n c rows) (off : Int) (ho : -9223372036854775808 ≤ off ∧ off ≤ 9223372036854775807) (hn : n ≤ 1000000) (hm : sumLen rows ≤ 1000000) :
    Calls Try.prog 25 [.slice A n c, .int .i64 off].toArray w (fun e w' => e = .returned (.agg (placeR rows off).enc.toArray) ∧ Ext [] w w') := by
  have hl := hr.len
  refine calls (n := 9) Try.func25 rfl Try.ntmps25 rfl ?_
  refine CW.sub (H' := SH w [] []) ?_ (Sub.refl _) (fun x hx => SH.start' _ _ hx)
  refine CW.seq (CW.region ?_)
  refine RW.allocA ag47 rfl (fun g4 hg4 hf4 => ?_)
  refine RW.nil (EX.seq (CW.seq (CW.region ?_)))
  refine RW.move rfl rfl ?_
  -- mq: op 1: ('Op.call', ('Call.mk', ('Callee.value', ('Operand.func', '36')), ('arr', ('Operand.tmp', '5')), ('arr', '24'))) -> slot 6 ("flow.go:142")
  refine RW.callK rfl ca36 rfl (fun w' hw' => sums_c w' F A n c rows (hr.ext hw'.ext (by simp)) hn hm) (fun w0 w1 A2 n2 c2 hw0 he01 hw1 hlt hrd => ?_)
  have hm2 := hrd.len
  rw [sumsL_length] at hm2
  refine RW.move rfl rfl ?_
  -- mq: op 3: ('Op.call', ('Call.mk', ('Callee.value', ('Operand.func', '38')), ('arr', ('Operand.tmp', '6'), ('Operand.tmp', '7')), ('arr', '63', '3'))) -> slot 8 ("flow.go:142")
  refine RW.call rfl ca38 rfl (fun w' hw' => place_c w' _ A2 n2 c2 rows ((hrd.weak (F' := fun k => k ≠ g4) (fun k hk e => by have := hlt g4 (by simp [feet, blk]); omega)).ext hw'.ext (by simp [feet, blk])) off ho (by omega) hm) ?_
  refine RW.storeA ag47 rfl rfl (by first | exact Upd.head | exact Upd.tail Upd.head | exact Upd.tail (Upd.tail Upd.head) | exact Upd.tail (Upd.tail (Upd.tail Upd.head)) | exact Upd.tail (Upd.tail (Upd.tail (Upd.tail Upd.head))) | exact Upd.tail (Upd.tail (Upd.tail (Upd.tail (Upd.tail Upd.head)))) | exact Upd.tail (Upd.tail (Upd.tail (Upd.tail (Upd.tail (Upd.tail Upd.head)))))) (by first | rfl | exact Enc.len _ _) (by repeat (first | exact Ones.nil | exact Enc.ones _ _ | refine Ones.cons rfl ?_)) (by first | exact Nat.le_of_ble_eq_true rfl | (simp only [Enc.len]; decide)) ?_
  refine RW.nil (EX.seq (CW.ret ?_))
  refine EX.fin1' Try.results25 (RV.cellA ag47 rfl (by first | exact Has.head | exact Has.tail Has.head | exact Has.tail (Has.tail Has.head) | exact Has.tail (Has.tail (Has.tail Has.head)) | exact Has.tail (Has.tail (Has.tail (Has.tail Has.head))) | exact Has.tail (Has.tail (Has.tail (Has.tail (Has.tail Has.head)))) | exact Has.tail (Has.tail (Has.tail (Has.tail (Has.tail (Has.tail Has.head)))))) rfl rfl) (fun wz hw => ?_)
  -- mq: done
  exact ⟨rfl, (hw0.ext.trans0 he01).trans hw.ext (fun x hx hlt2 => by simp [feet, blk] at hx; omega)⟩
theorem refPlace_c (w : World) (F : Nat → Prop) (A : Option Addr) (n c : Nat) (rows : List RowL) (hr : RdRows w F A n c rows) (off : Int) (ho : -9223372036854775808 ≤ off ∧ off ≤ 9223372036854775807) (hn : n ≤ 1000000) (hm : sumLen rows ≤ 1000000) :
    Calls Try.prog 26 [.slice A n c, .int .i64 off].toArray w (fun e w' => e = .returned (.agg (placeR rows off).enc.toArray) ∧ Ext [] w w') := by
  have hl := hr.len
  have hcap := hr.cap'
  refine calls (n := 56) Try.func26 rfl Try.ntmps26 rfl ?_
  refine CW.sub (H' := SH w [] []) ?_ (Sub.refl _) (fun x hx => SH.start' _ _ hx)
  refine CW.seq (CW.region ?_)
  refine RW.allocA ag47 rfl (fun g4 hg4 hf4 => ?_)
  refine RW.nil (EX.seq (CW.seq ?_))
  -- mq: seq
  refine CW.join ([(0, .slice A n c), (1, .int .i64 (max 0 off)), (4, .pointer (some ⟨g4, 0, none⟩))]) (SH w [] [blk g4 [.int .i64 0, .int .i64 0] 47]) ?_ ?_
  · skip
    refine CW.seq (CW.region ?_)
    refine RW.move rfl rfl ?_
    refine RW.lss rfl rfl rfl ?_
    refine RW.nil (EX.seq ?_)
    -- mq: cond
    first | refine CW.condD rfl (fun h1 => ?_) (fun h1 => ?_) | refine CW.cond rfl (fun h1 => ?_) (fun h1 => ?_)
    · skip
      refine CW.region ?_
      refine RW.assign rfl rfl ?_
      refine RW.nil ?_
      -- mq: joinend
      exact EX.jn (Sub.cons (by rfl) (Sub.cons (by rw [show max 0 off = 0 by omega]; rfl) (Sub.cons (by rfl) Sub.nil))) (fun _ h => h)
    · skip
      refine CW.skip ?_
      -- mq: joinend
      exact EX.jn (Sub.cons (by rfl) (Sub.cons (by rw [show max 0 off = off by omega]; rfl) (Sub.cons (by rfl) Sub.nil))) (fun _ h => h)
  · skip
    generalize hoff : max 0 off = o
    have ho0 : 0 ≤ o ∧ o ≤ 9223372036854775807 := by omega
    refine EX.seq (CW.seq (CW.seq (CW.region ?_)))
    refine RW.assign rfl rfl ?_
    refine RW.nil (EX.seq (CW.block ?_))
    -- mq: loop
    refine CW.loop (ι := Nat) (fun i => [(0, .slice A n c), (1, .int .i64 o), (4, .pointer (some ⟨g4, 0, none⟩)), (5, .int .i64 (i : Int))]) (fun _ => SH w [] [blk g4 [.int .i64 0, .int .i64 0] 47]) (fun i => i ≤ n ∧ ∀ j, j < i → (cnt rows (j + 1) : Int) ≤ o) (fun i => n - i) ?_ ?_
    · exact fun w hw => ⟨0, ⟨Nat.zero_le _, by simp⟩, (by repeat (first | exact Sub.nil | refine Sub.cons (by rfl) ?_)), hw⟩
    · rintro i ⟨hi, hlo⟩
      refine CW.seq (CW.seq (CW.region ?_))
      refine RW.move rfl rfl ?_
      refine RW.move rfl rfl ?_
      refine RW.lenSl Try.underlying24 rfl rfl ?_
      refine RW.lss rfl rfl rfl ?_
      refine RW.nil (EX.seq ?_)
      -- mq: cond
      first | refine CW.condD rfl (fun hlt => ?_) (fun hlt => ?_) | refine CW.cond rfl (fun hlt => ?_) (fun hlt => ?_)
      · skip
        have hcut1 := hr.cut (p := 0) (q := i + 1) (by omega) (by omega)
        have hcut2 := hr.cut (p := 0) (q := i) (by omega) (by omega)
        rw [List.drop_zero] at hcut1 hcut2
        have hs1 : sumLen (rows.take (i + 1)) ≤ 1000000 := Nat.le_trans (sumLen_take_le rows _) hm
        have hs2 : sumLen (rows.take i) ≤ 1000000 := Nat.le_trans (sumLen_take_le rows _) hm
        have hc1 := cnt_le rows i
        refine CW.skip (EX.seq (CW.seq (CW.block (CW.seq (CW.region ?_)))))
        refine RW.move rfl rfl ?_
        refine RW.move rfl rfl ?_
        refine RW.add rfl rfl rfl (wrap64 (by omega) (by omega)) ?_
        -- mq: at
        refine RW.sliceSl 0 (i + 1) sl24 rfl rfl (.inr ⟨rfl, rfl⟩) (.inl ⟨_, _, rfl, rfl, rfl⟩) (by omega) (by omega) ?_
        refine RW.call rfl ca37 rfl (fun w' hw' => Count_c w' F _ _ _ _ (hcut1.ext hw'.ext (by simp)) (by omega) hs1) ?_
        rw [show ((cellsOf (rows.take (i + 1))).length : Int) = (cnt rows (i + 1) : Int) from rfl]
        refine RW.move rfl rfl ?_
        refine RW.gtr rfl rfl rfl ?_
        refine RW.nil (EX.seq ?_)
        -- mq: cond
        first | refine CW.condD rfl (fun h6 => ?_) (fun h6 => ?_) | refine CW.cond rfl (fun h6 => ?_) (fun h6 => ?_)
        · skip
          refine CW.seq (CW.region ?_)
          refine RW.move rfl rfl ?_
          refine RW.move rfl rfl ?_
          refine RW.move rfl rfl ?_
          refine RW.move rfl rfl ?_
          -- mq: at
          refine RW.sliceSl 0 i sl24 rfl rfl (.inr ⟨rfl, rfl⟩) (.inl ⟨_, _, rfl, rfl, rfl⟩) (by omega) (by omega) ?_
          refine RW.call rfl ca37 rfl (fun w' hw' => Count_c w' F _ _ _ _ (hcut2.ext hw'.ext (by simp)) (by omega) hs2) ?_
          rw [show ((cellsOf (rows.take i)).length : Int) = (cnt rows i : Int) from rfl]
          refine RW.sub_ rfl rfl rfl (wrap64 (by omega) (by omega)) ?_
          refine RW.buildS bu47 rfl rfl rfl ?_
          refine RW.storeA ag47 rfl rfl (by first | exact Upd.head | exact Upd.tail Upd.head | exact Upd.tail (Upd.tail Upd.head) | exact Upd.tail (Upd.tail (Upd.tail Upd.head)) | exact Upd.tail (Upd.tail (Upd.tail (Upd.tail Upd.head))) | exact Upd.tail (Upd.tail (Upd.tail (Upd.tail (Upd.tail Upd.head)))) | exact Upd.tail (Upd.tail (Upd.tail (Upd.tail (Upd.tail (Upd.tail Upd.head)))))) (by first | rfl | exact Enc.len _ _) (by repeat (first | exact Ones.nil | exact Enc.ones _ _ | refine Ones.cons rfl ?_)) (by first | exact Nat.le_of_ble_eq_true rfl | (simp only [Enc.len]; decide)) ?_
          refine RW.nil (EX.seq (CW.ret (EX.bkR (EX.seqR (EX.lpR (EX.bkR (EX.seqR ?_)))))))
          refine EX.fin1' Try.results26 (RV.cellA ag47 rfl (by first | exact Has.head | exact Has.tail Has.head | exact Has.tail (Has.tail Has.head) | exact Has.tail (Has.tail (Has.tail Has.head)) | exact Has.tail (Has.tail (Has.tail (Has.tail Has.head))) | exact Has.tail (Has.tail (Has.tail (Has.tail (Has.tail Has.head)))) | exact Has.tail (Has.tail (Has.tail (Has.tail (Has.tail (Has.tail Has.head)))))) rfl rfl) (fun wz hw => ?_)
          -- mq: done
          have hk := isK_eq (rows := rows) (off := o) (k := i) ⟨by omega, hlo, fun _ => by omega⟩
          refine ⟨?_, hw.ext⟩
          rw [placeR, if_neg (by omega), hoff, ← hk, if_neg (by omega)]
          rfl
        · skip
          refine CW.skip (EX.bkN (EX.seq (CW.region ?_)))
          refine RW.move rfl rfl ?_
          refine RW.add rfl rfl rfl (wrap64 (by omega) (by omega)) ?_
          refine RW.assign rfl rfl ?_
          refine RW.nil ?_
          -- mq: loopend
          refine EX.lpN (i + 1) ⟨by omega, fun j hj => ?_⟩ (by omega) (by repeat (first | exact Sub.nil | refine Sub.cons (by rfl) ?_)) (fun _ h => h)
          by_cases hji : j = i
          · subst hji; omega
          · exact hlo j (by omega)
      · skip
        have hin : i = n := by omega
        subst hin
        have hk := isK_eq (rows := rows) (off := o) (k := i) ⟨by omega, hlo, fun h => by omega⟩
        refine CW.exit (EX.seqE (EX.lpE (EX.bkE (EX.seq (CW.seq (CW.seq (CW.region ?_)))))))
        refine RW.move rfl rfl ?_
        refine RW.lenSl Try.underlying24 rfl rfl ?_
        refine RW.eqlI rfl rfl rfl ?_
        refine RW.nil (EX.seq ?_)
        -- mq: cond
        first | refine CW.condD rfl (fun h0 => ?_) (fun h0 => ?_) | refine CW.cond rfl (fun h0 => ?_) (fun h0 => ?_)
        · skip
          refine CW.seq (CW.region ?_)
          refine RW.buildS bu47 rfl rfl rfl ?_
          refine RW.storeA ag47 rfl rfl (by first | exact Upd.head | exact Upd.tail Upd.head | exact Upd.tail (Upd.tail Upd.head) | exact Upd.tail (Upd.tail (Upd.tail Upd.head)) | exact Upd.tail (Upd.tail (Upd.tail (Upd.tail Upd.head))) | exact Upd.tail (Upd.tail (Upd.tail (Upd.tail (Upd.tail Upd.head)))) | exact Upd.tail (Upd.tail (Upd.tail (Upd.tail (Upd.tail (Upd.tail Upd.head)))))) (by first | rfl | exact Enc.len _ _) (by repeat (first | exact Ones.nil | exact Enc.ones _ _ | refine Ones.cons rfl ?_)) (by first | exact Nat.le_of_ble_eq_true rfl | (simp only [Enc.len]; decide)) ?_
          refine RW.nil (EX.seq (CW.ret (EX.seqR ?_)))
          refine EX.fin1' Try.results26 (RV.cellA ag47 rfl (by first | exact Has.head | exact Has.tail Has.head | exact Has.tail (Has.tail Has.head) | exact Has.tail (Has.tail (Has.tail Has.head)) | exact Has.tail (Has.tail (Has.tail (Has.tail Has.head))) | exact Has.tail (Has.tail (Has.tail (Has.tail (Has.tail Has.head)))) | exact Has.tail (Has.tail (Has.tail (Has.tail (Has.tail (Has.tail Has.head)))))) rfl rfl) (fun wz hw => ?_)
          -- mq: done
          refine ⟨?_, hw.ext⟩
          rw [placeR, if_pos (by omega)]
          rfl
        · skip
          have hcut1 := hr.cut (p := i - 1) (q := i) (by omega) (by omega)
          have hcut2 := hr.cut (p := 0) (q := i - 1) (by omega) (by omega)
          rw [List.drop_zero] at hcut2
          have hs1 : sumLen ((rows.take i).drop (i - 1)) ≤ 1000000 := Nat.le_trans (sumLen_drop_le _ _) (Nat.le_trans (sumLen_take_le rows _) hm)
          have hs2 : sumLen (rows.take (i - 1)) ≤ 1000000 := Nat.le_trans (sumLen_take_le rows _) hm
          have hc1 := cnt_le rows (i - 1)
          have hc2 := cnt_le rows i
          have hc3 := cnt_mono (rows := rows) (j := i - 1) (k := i) (by omega)
          refine CW.skip (EX.seq (CW.seq (CW.region ?_)))
          refine RW.move rfl rfl ?_
          refine RW.lenSl Try.underlying24 rfl rfl ?_
          refine RW.sub_ rfl rfl rfl (wrap64 (by omega) (by omega)) ?_
          refine RW.assign rfl rfl ?_
          refine RW.nil (EX.seq (CW.seq ?_))
          -- mq: region
          rw [show (i : Int) - 1 = ((i - 1 : Nat) : Int) by omega]
          refine CW.region ?_
          refine RW.move rfl rfl ?_
          refine RW.move rfl rfl ?_
          -- mq: at
          refine RW.sliceSl (i - 1) i sl24 rfl rfl (.inl ⟨_, _, rfl, rfl, rfl⟩) (.inr ⟨rfl, rfl⟩) (by omega) (by omega) ?_
          refine RW.call rfl ca37 rfl (fun w' hw' => Count_c w' F _ _ _ _ (hcut1.ext hw'.ext (by simp)) (by omega) hs1) ?_
          rw [cnt_cut rows (i - 1) i (by omega)]
          refine RW.assign rfl rfl ?_
          refine RW.nil (EX.seq (CW.seq ?_))
          -- mq: region
          refine CW.region ?_
          refine RW.move rfl rfl ?_
          refine RW.move rfl rfl ?_
          refine RW.move rfl rfl ?_
          -- mq: at
          refine RW.sliceSl 0 (i - 1) sl24 rfl rfl (.inr ⟨rfl, rfl⟩) (.inl ⟨_, _, rfl, rfl, rfl⟩) (by omega) (by omega) ?_
          refine RW.call rfl ca37 rfl (fun w' hw' => Count_c w' F _ _ _ _ (hcut2.ext hw'.ext (by simp)) (by omega) hs2) ?_
          rw [show ((cellsOf (rows.take (i - 1))).length : Int) = (cnt rows (i - 1) : Int) from rfl]
          refine RW.sub_ rfl rfl rfl (wrap64 (by omega) (by omega)) ?_
          refine RW.assign rfl rfl ?_
          refine RW.nil (EX.seq (CW.seq (CW.seq (CW.region ?_))))
          refine RW.move rfl rfl ?_
          refine RW.move rfl rfl ?_
          refine RW.gtr rfl rfl rfl ?_
          refine RW.nil (EX.seq ?_)
          -- mq: cond
          have hfin : placeR rows off = ⟨((i - 1 : Nat) : Int), min o (cnt rows i : Int) - (cnt rows (i - 1) : Int)⟩ := by
            rw [placeR, if_neg (by omega), hoff, ← hk, if_pos (by omega), hl]
          first | refine CW.condD rfl (fun h8 => ?_) (fun h8 => ?_) | refine CW.cond rfl (fun h8 => ?_) (fun h8 => ?_)
          · skip
            refine CW.region ?_
            refine RW.move rfl rfl ?_
            refine RW.assign rfl rfl ?_
            refine RW.nil (EX.seq (CW.seq (CW.region ?_)))
            refine RW.move rfl rfl ?_
            refine RW.move rfl rfl ?_
            refine RW.buildS bu47 rfl rfl rfl ?_
            refine RW.storeA ag47 rfl rfl (by first | exact Upd.head | exact Upd.tail Upd.head | exact Upd.tail (Upd.tail Upd.head) | exact Upd.tail (Upd.tail (Upd.tail Upd.head)) | exact Upd.tail (Upd.tail (Upd.tail (Upd.tail Upd.head))) | exact Upd.tail (Upd.tail (Upd.tail (Upd.tail (Upd.tail Upd.head)))) | exact Upd.tail (Upd.tail (Upd.tail (Upd.tail (Upd.tail (Upd.tail Upd.head)))))) (by first | rfl | exact Enc.len _ _) (by repeat (first | exact Ones.nil | exact Enc.ones _ _ | refine Ones.cons rfl ?_)) (by first | exact Nat.le_of_ble_eq_true rfl | (simp only [Enc.len]; decide)) ?_
            refine RW.nil (EX.seq (CW.ret ?_))
            refine EX.fin1' Try.results26 (RV.cellA ag47 rfl (by first | exact Has.head | exact Has.tail Has.head | exact Has.tail (Has.tail Has.head) | exact Has.tail (Has.tail (Has.tail Has.head)) | exact Has.tail (Has.tail (Has.tail (Has.tail Has.head))) | exact Has.tail (Has.tail (Has.tail (Has.tail (Has.tail Has.head)))) | exact Has.tail (Has.tail (Has.tail (Has.tail (Has.tail (Has.tail Has.head)))))) rfl rfl) (fun wz hw => ?_)
            -- mq: done
            refine ⟨?_, hw.ext⟩
            rw [hfin, show min o (cnt rows i : Int) - (cnt rows (i - 1) : Int) = ((cnt rows i - cnt rows (i - 1) : Nat) : Int) by omega]
            rfl
          · skip
            refine CW.skip (EX.seq (CW.seq (CW.region ?_)))
            refine RW.move rfl rfl ?_
            refine RW.move rfl rfl ?_
            refine RW.buildS bu47 rfl rfl rfl ?_
            refine RW.storeA ag47 rfl rfl (by first | exact Upd.head | exact Upd.tail Upd.head | exact Upd.tail (Upd.tail Upd.head) | exact Upd.tail (Upd.tail (Upd.tail Upd.head)) | exact Upd.tail (Upd.tail (Upd.tail (Upd.tail Upd.head))) | exact Upd.tail (Upd.tail (Upd.tail (Upd.tail (Upd.tail Upd.head)))) | exact Upd.tail (Upd.tail (Upd.tail (Upd.tail (Upd.tail (Upd.tail Upd.head)))))) (by first | rfl | exact Enc.len _ _) (by repeat (first | exact Ones.nil | exact Enc.ones _ _ | refine Ones.cons rfl ?_)) (by first | exact Nat.le_of_ble_eq_true rfl | (simp only [Enc.len]; decide)) ?_
            refine RW.nil (EX.seq (CW.ret ?_))
            refine EX.fin1' Try.results26 (RV.cellA ag47 rfl (by first | exact Has.head | exact Has.tail Has.head | exact Has.tail (Has.tail Has.head) | exact Has.tail (Has.tail (Has.tail Has.head)) | exact Has.tail (Has.tail (Has.tail (Has.tail Has.head))) | exact Has.tail (Has.tail (Has.tail (Has.tail (Has.tail Has.head)))) | exact Has.tail (Has.tail (Has.tail (Has.tail (Has.tail (Has.tail Has.head)))))) rfl rfl) (fun wz hw => ?_)
            -- mq: done
            refine ⟨?_, hw.ext⟩
            rw [hfin, show min o (cnt rows i : Int) - (cnt rows (i - 1) : Int) = o - (cnt rows (i - 1) : Int) by omega]
            rfl
end Go.Proofs.Ytmdmdlfdijdhgaa.Mq
