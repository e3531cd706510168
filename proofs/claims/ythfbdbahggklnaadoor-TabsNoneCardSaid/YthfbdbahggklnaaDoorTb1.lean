/- tabs: stops in memory; walks of Cols, in, Has, Set, Clear, None -/
import Derived.Test.YthfbdbahggklnaaDoorTbBits
import Derived.Test.YthfbdbahggklnaaDoorTwo
import Derived.Test.YthfbdbahggklnaaDoorTypes
import Derived.Shelf.Small.Bits
import Derived.Shelf.Spec.TrailingZeros
namespace Go.Proofs.YthfbdbahggklnaaDoor.Mq
open Go Go.RowKit Go.Proofs

def lays29_ren : Shelf.Ren := ⟨fun | 29 => 32 | n => n, fun | 0 => 0 | 3 => 3 | 4 => 4 | 5 => 5 | 22 => 54 | 25 => 59 | 54 => 58 | n => n, fun | 1 => 0 | n => n⟩
theorem lays29 : Lays7.n29 Tryd.prog lays29_ren where
  mixed := by kernel_rfl
  f29 := Tryd.func32.trans (congrArg some (by kernel_rfl))
  t0 := Tryd.underlying0
  a0 := Tryd.isAgg0
  z0 := Tryd.sizeOf0
  v0 := Tryd.zeroValue0
  i0 := by kernel_rfl
  t3 := Tryd.underlying3
  a3 := Tryd.isAgg3
  z3 := Tryd.sizeOf3
  v3 := Tryd.zeroValue3
  i3 := by kernel_rfl
  t4 := Tryd.underlying4
  a4 := Tryd.isAgg4
  z4 := Tryd.sizeOf4
  v4 := Tryd.zeroValue4
  i4 := by kernel_rfl
  t5 := Tryd.underlying5
  a5 := Tryd.isAgg5
  z5 := Tryd.sizeOf5
  v5 := Tryd.zeroValue5
  i5 := by kernel_rfl
  t22 := Tryd.underlying54
  a22 := Tryd.isAgg54
  z22 := Tryd.sizeOf54
  v22 := Tryd.zeroValue54
  i22 := by kernel_rfl
  t25 := Tryd.underlying59
  a25 := Tryd.isAgg59
  z25 := Tryd.sizeOf59
  v25 := Tryd.zeroValue59
  i25 := by kernel_rfl
  t54 := Tryd.underlying58
  a54 := Tryd.isAgg58
  z54 := Tryd.sizeOf58
  g1 := by kernel_rfl
def lays134_ren : Shelf.Ren := ⟨fun | 129 => 34 | 134 => 33 | n => n, fun | 3 => 3 | 4 => 4 | 5 => 5 | 9 => 9 | 46 => 59 | 53 => 54 | n => n, fun n => n⟩
theorem lays134 : Lays.n134 Tryd.prog lays134_ren where
  mixed := by kernel_rfl
  f129 := Tryd.func34.trans (congrArg some (by kernel_rfl))
  f134 := Tryd.func33.trans (congrArg some (by kernel_rfl))
  t3 := Tryd.underlying3
  a3 := Tryd.isAgg3
  z3 := Tryd.sizeOf3
  v3 := Tryd.zeroValue3
  t4 := Tryd.underlying4
  a4 := Tryd.isAgg4
  z4 := Tryd.sizeOf4
  v4 := Tryd.zeroValue4
  t5 := Tryd.underlying5
  a5 := Tryd.isAgg5
  z5 := Tryd.sizeOf5
  v5 := Tryd.zeroValue5
  t9 := Tryd.underlying9
  a9 := Tryd.isAgg9
  z9 := Tryd.sizeOf9
  v9 := Tryd.zeroValue9
  t46 := Tryd.underlying59
  a46 := Tryd.isAgg59
  z46 := Tryd.sizeOf59
  v46 := Tryd.zeroValue59
  t53 := Tryd.underlying54
  a53 := Tryd.isAgg54
  z53 := Tryd.sizeOf54
  v53 := Tryd.zeroValue54
def EW : Enc Nat := ⟨fun w => [.int .u64 (w : Int)], 1, fun _ => rfl, fun _ => by repeat (first | exact Ones.nil | refine Ones.cons rfl ?_)⟩
structure SI where
  A : Option Addr
  m : Nat
  c : Nat
  ws : List Nat
abbrev stE (n : Nat) (i : SI) : List Value := [.slice i.A i.m i.c, .int .i64 (n : Int)]
def stp (g n : Nat) (i : SI) : Chunk := both (blk g (stE n i) 53) (own 54 1 (.slice i.A i.m i.c) i.m (EW.all i.ws))
structure Okk (bs : List Bool) (i : SI) : Prop where
  rp : Rp i.ws bs
  le : bs.length ≤ 1000
  len : i.ws.length = i.m
  m16 : i.m ≤ 16
/-- what a reader knows of stops -/
structure RdS (w : World) (g n : Nat) (i : SI) : Prop where
  c0 : w.cell? ⟨g, 0, none⟩ = some (.slice i.A i.m i.c)
  c1 : w.cell? ⟨g, 1, none⟩ = some (.int .i64 (n : Int))
  rd : Rd EW w (fun _ => True) i.A i.m i.c i.ws
theorem RdS.of {w : World} {g n : Nat} {i : SI} (h : (stp g n i).pred w) (hl : i.ws.length = i.m) : RdS w g n i := by
  have hb : w.heap[g]? = some (.cells (stE n i).toArray 53 (0, 0)) := h.1
  obtain ⟨A, c, he, hr⟩ := Rd.of_own (E := EW) (l := i.ws) h.2 hl
  injection he with e1 e2 e3
  subst e1 e3
  exact ⟨by rw [cell_of_row w g 0 _ _ _ hb]; rfl, by rw [cell_of_row w g 1 _ _ _ hb]; rfl, hr.weak (fun _ _ => trivial)⟩
theorem RdS.ext {w w' : World} {g n : Nat} {i : SI} (h : RdS w g n i) (hx : Ext [] w w') : RdS w' g n i :=
  ⟨by rw [hx.cell (World.block_lt_of_cell? _ _ h.c0) (by simp)]; exact h.c0, by rw [hx.cell (World.block_lt_of_cell? _ _ h.c1) (by simp)]; exact h.c1, h.rd.ext hx (by simp)⟩
abbrev ptr (g : Nat) : Value := .pointer (some ⟨g, 0, none⟩)
theorem fits_c (w : World) (n : Int) : Calls Tryd.prog 25 [.int .i64 n].toArray w (fun e w' => e = .returned (.bool (decide (2 ≤ n ∧ n ≤ 1000))) ∧ Ext [] w w') := by
  refine calls (n := 9) Tryd.func25 rfl Tryd.ntmps25 rfl ?_
  refine CW.sub (H' := SH w [] []) ?_ (Sub.refl _) (fun x hx => SH.start' _ _ hx)
  refine CW.seq (CW.region ?_)
  refine RW.assign rfl rfl ?_
  refine RW.nil (EX.seq (CW.seq (CW.region ?_)))
  refine RW.move rfl rfl ?_
  refine RW.geq rfl rfl rfl ?_
  refine RW.move rfl rfl ?_
  -- mq: guard slot 5
  refine RW.casesB 5 rfl (fun h => ?_) (fun h => ?_)
  · skip
    have hp := of_decide_eq_true h
    refine RW.guardT rfl rfl h ?_
    refine RW.move rfl rfl ?_
    refine RW.guardT rfl rfl h ?_
    refine RW.leq rfl rfl rfl ?_
    refine RW.pickB rfl rfl h rfl ?_
    refine RW.assign rfl rfl ?_
    refine RW.nil (EX.seq (CW.ret ?_))
    refine EX.fin1 Tryd.results25 rfl (fun wz hw => ?_)
    -- mq: done
    exact ⟨by simp [hp], hw.ext⟩
  · skip
    have hp := of_decide_eq_false h
    refine RW.guardF rfl rfl rfl h ?_
    refine RW.guardF rfl rfl rfl h ?_
    refine RW.pickC rfl rfl h rfl ?_
    refine RW.assign rfl rfl ?_
    refine RW.nil (EX.seq (CW.ret ?_))
    refine EX.fin1 Tryd.results25 rfl (fun wz hw => ?_)
    -- mq: done
    exact ⟨by simp [hp], hw.ext⟩
theorem cols_c (w : World) (g n : Nat) (i : SI) (h : RdS w g n i) : Calls Tryd.prog 10 [ptr g].toArray w (fun e w' => e = .returned (.int .i64 (n : Int)) ∧ Ext [] w w') := by
  refine calls (n := 9) Tryd.func10 rfl Tryd.ntmps10 rfl ?_
  refine CW.sub (H' := SH w [] []) ?_ (Sub.refl _) (fun x hx => SH.start' _ _ hx)
  refine CW.seq (CW.region ?_)
  refine RW.assign rfl rfl ?_
  refine RW.nil (EX.seq (CW.seq (CW.seq (CW.region ?_))))
  refine RW.move rfl rfl ?_
  refine RW.eqlP Tryd.underlying25 rfl rfl rfl ?_
  refine RW.nil (EX.seq ?_)
  -- mq: cond
  refine CW.condF rfl (rfl) ?_
  refine CW.skip (EX.seq (CW.seq (CW.region ?_)))
  refine RW.move rfl rfl ?_
  refine RW.nilChk rfl rfl ?_
  refine RW.fieldP fl53x1 rfl rfl ?_
  refine RW.load1 sc3 rfl rfl (fun w' hw' => hw'.base_cell h.c1 (by simp)) ?_
  refine RW.assign rfl rfl ?_
  refine RW.nil (EX.seq (CW.ret ?_))
  refine EX.fin1 Tryd.results10 rfl (fun wz hw => ?_)
  -- mq: done
  exact ⟨rfl, hw.ext⟩
theorem cols_nil (w : World) : Calls Tryd.prog 10 [.pointer none].toArray w (fun e w' => e = .returned (.int .i64 0) ∧ Ext [] w w') := by
  refine calls (n := 9) Tryd.func10 rfl Tryd.ntmps10 rfl ?_
  refine CW.sub (H' := SH w [] []) ?_ (Sub.refl _) (fun x hx => SH.start' _ _ hx)
  refine CW.seq (CW.region ?_)
  refine RW.assign rfl rfl ?_
  refine RW.nil (EX.seq (CW.seq (CW.seq (CW.region ?_))))
  refine RW.move rfl rfl ?_
  refine RW.eqlP Tryd.underlying25 rfl rfl rfl ?_
  refine RW.nil (EX.seq ?_)
  -- mq: cond
  refine CW.condT rfl (rfl) ?_
  refine CW.seq (CW.region ?_)
  refine RW.assign rfl rfl ?_
  refine RW.nil (EX.seq (CW.ret (EX.seqR ?_)))
  refine EX.fin1 Tryd.results10 rfl (fun wz hw => ?_)
  -- mq: done
  exact ⟨rfl, hw.ext⟩
theorem in_c (w : World) (g n : Nat) (i : SI) (h : RdS w g n i) (x : Int) : Calls Tryd.prog 26 [ptr g, .int .i64 x].toArray w (fun e w' => e = .returned (.bool (decide (0 ≤ x ∧ x < (n : Int)))) ∧ Ext [] w w') := by
  refine calls (n := 13) Tryd.func26 rfl Tryd.ntmps26 rfl ?_
  refine CW.sub (H' := SH w [] []) ?_ (Sub.refl _) (fun x hx => SH.start' _ _ hx)
  refine CW.seq (CW.region ?_)
  refine RW.assign rfl rfl ?_
  refine RW.nil (EX.seq (CW.seq (CW.region ?_)))
  refine RW.move rfl rfl ?_
  refine RW.geq rfl rfl rfl ?_
  refine RW.move rfl rfl ?_
  -- mq: guard slot 7
  refine RW.casesB 7 rfl (fun h0 => ?_) (fun h0 => ?_)
  · skip
    have h0p := of_decide_eq_true h0
    refine RW.guardT rfl rfl h0 ?_
    refine RW.move rfl rfl ?_
    refine RW.guardT rfl rfl h0 ?_
    refine RW.move rfl rfl ?_
    refine RW.guardT rfl rfl h0 ?_
    refine RW.call rfl ca10 rfl (fun w' hw' => cols_c w' g n i (h.ext hw'.ext)) ?_
    refine RW.guardT rfl rfl h0 ?_
    refine RW.lss rfl rfl rfl ?_
    refine RW.pickB rfl rfl h0 rfl ?_
    refine RW.assign rfl rfl ?_
    refine RW.nil (EX.seq (CW.ret ?_))
    refine EX.fin1 Tryd.results26 rfl (fun wz hw => ?_)
    -- mq: done
    exact ⟨by simp [h0p], hw.ext⟩
  · skip
    have h0p := of_decide_eq_false h0
    refine RW.guardF rfl rfl rfl h0 ?_
    refine RW.guardF rfl rfl rfl h0 ?_
    refine RW.guardF rfl rfl rfl h0 ?_
    refine RW.guardF rfl rfl rfl h0 ?_
    refine RW.pickC rfl rfl h0 rfl ?_
    refine RW.assign rfl rfl ?_
    refine RW.nil (EX.seq (CW.ret ?_))
    refine EX.fin1 Tryd.results26 rfl (fun wz hw => ?_)
    -- mq: done
    exact ⟨by simp [h0p], hw.ext⟩
theorem in_nil (w : World) (x : Int) : Calls Tryd.prog 26 [.pointer none, .int .i64 x].toArray w (fun e w' => e = .returned (.bool false) ∧ Ext [] w w') := by
  refine calls (n := 13) Tryd.func26 rfl Tryd.ntmps26 rfl ?_
  refine CW.sub (H' := SH w [] []) ?_ (Sub.refl _) (fun x hx => SH.start' _ _ hx)
  refine CW.seq (CW.region ?_)
  refine RW.assign rfl rfl ?_
  refine RW.nil (EX.seq (CW.seq (CW.region ?_)))
  refine RW.move rfl rfl ?_
  refine RW.geq rfl rfl rfl ?_
  refine RW.move rfl rfl ?_
  -- mq: guard slot 7
  refine RW.casesB 7 rfl (fun h0 => ?_) (fun h0 => ?_)
  · skip
    have h0p := of_decide_eq_true h0
    refine RW.guardT rfl rfl h0 ?_
    refine RW.move rfl rfl ?_
    refine RW.guardT rfl rfl h0 ?_
    refine RW.move rfl rfl ?_
    refine RW.guardT rfl rfl h0 ?_
    refine RW.call rfl ca10 rfl (fun w' hw' => cols_nil w') ?_
    refine RW.guardT rfl rfl h0 ?_
    refine RW.lss rfl rfl rfl ?_
    refine RW.pickB rfl rfl h0 rfl ?_
    refine RW.assign rfl rfl ?_
    refine RW.nil (EX.seq (CW.ret ?_))
    refine EX.fin1 Tryd.results26 rfl (fun wz hw => ?_)
    -- mq: done
    exact ⟨by simp; omega, hw.ext⟩
  · skip
    have h0p := of_decide_eq_false h0
    refine RW.guardF rfl rfl rfl h0 ?_
    refine RW.guardF rfl rfl rfl h0 ?_
    refine RW.guardF rfl rfl rfl h0 ?_
    refine RW.guardF rfl rfl rfl h0 ?_
    refine RW.pickC rfl rfl h0 rfl ?_
    refine RW.assign rfl rfl ?_
    refine RW.nil (EX.seq (CW.ret ?_))
    refine EX.fin1 Tryd.results26 rfl (fun wz hw => ?_)
    -- mq: done
    exact ⟨rfl, hw.ext⟩
theorem and1 {v : Nat} (h : v < 2 ^ 64) : IntKind.u64.wrap ((BitVec.ofInt IntKind.u64.bits (v : Int) &&& BitVec.ofInt IntKind.u64.bits 1).toNat : Int) = ((v % 2 : Nat) : Int) := by
  refine and_eq (m := v) (n := 1) rfl rfl h (by decide) ?_
  rw [Nat.and_one_is_mod]
  rcases Nat.mod_two_eq_zero_or_one v with e | e <;> rw [e] <;> rfl
theorem shr64 (v y : Nat) : (v : Int) / 2 ^ min ((y : Int) % 64).toNat IntKind.u64.bits = ((v / 2 ^ (y % 64) : Nat) : Int) := by
  have e : min ((y : Int) % 64).toNat IntKind.u64.bits = y % 64 := by simp only [IntKind.bits]; omega
  rw [e]; simp
theorem word_of {bs : List Bool} {i : SI} (h : Okk bs i) {x : Nat} (hx : x < bs.length) : ∃ v, i.ws[x / 64]? = some v ∧ v < 2 ^ 64 ∧ x / 64 < i.m := by
  have h1 := h.rp.cov
  have h2 : x / 64 < i.ws.length := by omega
  exact ⟨i.ws[x / 64], List.getElem?_eq_getElem h2, h.rp.lt _ (List.getElem_mem h2), by have := h.len; omega⟩
theorem has_c (w : World) (g : Nat) (bs : List Bool) (i : SI) (ho : Okk bs i) (h : RdS w g bs.length i) (x : Int) (hx64 : -9223372036854775808 ≤ x ∧ x ≤ 9223372036854775807) : Calls Tryd.prog 12 [ptr g, .int .i64 x].toArray w (fun e w' => e = .returned (.bool (hasB bs x)) ∧ Ext [] w w') := by
  refine calls (n := 23) Tryd.func12 rfl Tryd.ntmps12 rfl ?_
  refine CW.sub (H' := SH w [] []) ?_ (Sub.refl _) (fun x hx => SH.start' _ _ hx)
  refine CW.seq (CW.region ?_)
  refine RW.assign rfl rfl ?_
  refine RW.nil (EX.seq (CW.seq (CW.region ?_)))
  refine RW.move rfl rfl ?_
  refine RW.move rfl rfl ?_
  -- mq: op 2: ('Op.call', ('Call.mk', ('Callee.value', ('Operand.func', '26')), ('arr', ('Operand.tmp', '5'), ('Operand.tmp', '6')), ('arr', '25', '3'))) -> slot 7 ("tabs.go:47")
  refine RW.call rfl ca26 rfl (fun w' hw' => in_c w' g _ i (h.ext hw'.ext) x) ?_
  refine RW.move rfl rfl ?_
  -- mq: guard slot 8
  refine RW.casesB 8 rfl (fun h0 => ?_) (fun h0 => ?_)
  · skip
    have h0p := of_decide_eq_true h0
    obtain ⟨y, rfl⟩ : ∃ y : Nat, x = (y : Int) := ⟨x.toNat, by omega⟩
    have hy : y < bs.length := by omega
    obtain ⟨v, hv, hv64, hq⟩ := word_of ho hy
    obtain ⟨ad, hA, _, hcell⟩ := h.rd.at_ hv
    refine RW.guardT rfl rfl h0 ?_
    refine RW.move rfl rfl ?_
    refine RW.guardT rfl rfl h0 ?_
    refine RW.nilChk rfl rfl ?_
    refine RW.guardT rfl rfl h0 ?_
    refine RW.fieldP fl53x0 rfl rfl ?_
    refine RW.guardT rfl rfl h0 ?_
    refine RW.load1 sc51 rfl rfl (fun w' hw' => hw'.base_cell h.c0 (by simp)) ?_
    refine RW.guardT rfl rfl h0 ?_
    refine RW.move rfl rfl ?_
    refine RW.guardT rfl rfl h0 ?_
    refine RW.quoN rfl rfl rfl (by omega) (by omega) (by omega) ?_
    refine RW.guardT rfl rfl h0 ?_
    refine RW.ixAddr (q := y / 64) sl51 rfl rfl rfl hA (by omega) (by omega) ?_
    refine RW.guardT rfl rfl h0 ?_
    refine RW.load1 sc54 rfl rfl (fun w' hw' => hw'.base_cell (hcell 0 _ rfl) (by simp)) ?_
    refine RW.guardT rfl rfl h0 ?_
    refine RW.move rfl rfl ?_
    refine RW.guardT rfl rfl h0 ?_
    refine RW.remN rfl rfl rfl (by omega) (by omega) ?_
    refine RW.guardT rfl rfl h0 ?_
    refine RW.shrN (r := ((v / 2 ^ (y % 64) : Nat) : Int)) rfl rfl rfl (by omega) (shr64 v y) ?_
    refine RW.guardT rfl rfl h0 ?_
    refine RW.and_ rfl rfl rfl (and1 (Nat.lt_of_le_of_lt (Nat.div_le_self _ _) hv64)) ?_
    refine RW.guardT rfl rfl h0 ?_
    refine RW.eqlI rfl rfl rfl ?_
    refine RW.pickB rfl rfl h0 rfl ?_
    refine RW.assign rfl rfl ?_
    refine RW.nil (EX.seq (CW.ret ?_))
    refine EX.fin1 Tryd.results12 rfl (fun wz hw => ?_)
    -- mq: done
    refine ⟨?_, hw.ext⟩
    have hb := ho.rp.bits y
    rw [wbit_at' hv, Nat.testBit_eq_decide_div_mod_eq] at hb
    rw [hasB, Int.toNat_natCast, ← hb, decide_eq_true (Int.natCast_nonneg y), Bool.true_and]
    generalize v / 2 ^ (y % 64) = u
    congr 2
    exact decide_eq_decide.2 (by omega)
  · skip
    have h0p := of_decide_eq_false h0
    refine RW.guardF rfl rfl rfl h0 ?_
    refine RW.guardF rfl rfl rfl h0 ?_
    refine RW.guardF rfl rfl rfl h0 ?_
    refine RW.guardF rfl rfl rfl h0 ?_
    refine RW.guardF rfl rfl rfl h0 ?_
    refine RW.guardF rfl rfl rfl h0 ?_
    refine RW.guardF rfl rfl rfl h0 ?_
    refine RW.guardF rfl rfl rfl h0 ?_
    refine RW.guardF rfl rfl rfl h0 ?_
    refine RW.guardF rfl rfl rfl h0 ?_
    refine RW.guardF rfl rfl rfl h0 ?_
    refine RW.guardF rfl rfl rfl h0 ?_
    refine RW.guardF rfl rfl rfl h0 ?_
    refine RW.pickC rfl rfl h0 rfl ?_
    refine RW.assign rfl rfl ?_
    refine RW.nil (EX.seq (CW.ret ?_))
    refine EX.fin1 Tryd.results12 rfl (fun wz hw => ?_)
    -- mq: done
    refine ⟨?_, hw.ext⟩
    rw [hasB]
    by_cases h1 : 0 ≤ x
    · rw [gb_ge (by omega)]; simp
    · simp [h1]
theorem shl64 (y : Nat) : IntKind.u64.wrap (1 * 2 ^ min ((y : Int) % 64).toNat IntKind.u64.bits) = ((2 ^ (y % 64) : Nat) : Int) := by
  have e : min ((y : Int) % 64).toNat IntKind.u64.bits = y % 64 := by simp only [IntKind.bits]; omega
  have h : 2 ^ (y % 64) < 2 ^ 64 := Nat.pow_lt_pow_right (by decide) (Nat.mod_lt _ (by decide))
  rw [e, Int.one_mul]
  have : ((2 : Int) ^ (y % 64)) = ((2 ^ (y % 64) : Nat) : Int) := by simp
  rw [this]
  generalize 2 ^ (y % 64) = u at *
  simp [IntKind.wrap, IntKind.bits, IntKind.signed]
  omega
theorem w64 {v : Nat} (h : v < 2 ^ 64) : IntKind.u64.wrap (v : Int) = (v : Int) := by
  simp [IntKind.wrap, IntKind.bits, IntKind.signed]; omega
theorem pow64 (y : Nat) : 2 ^ (y % 64) < 2 ^ 64 := Nat.pow_lt_pow_right (by decide) (Nat.mod_lt _ (by decide))
theorem withB_out {bs : List Bool} {x : Int} {on : Bool} (h : ¬ (0 ≤ x ∧ x < (bs.length : Int))) : withB bs x on = bs := if_neg h
theorem own_word {b w : World} {S : List Nat} {cs : List Chunk} {e a m c q v : Nat} {ws : List Nat} (h : SH b S cs w) (hc : Has cs (own e 1 (.slice (some ⟨a, 0, none⟩) m c) m (EW.all ws))) (hv : ws[q]? = some v) :
    w.cell? ((⟨a, 0, none⟩ : Addr).add (q * 1)) = some (.int .u64 (v : Int)) := by
  rw [Addr.add_lit, Nat.zero_add, Nat.mul_one]
  refine h.own_cell hc ?_
  have := EW.all_get (j := 0) (u := .int .u64 (v : Int)) hv rfl
  simpa [EW] using this
abbrev RetS (g n : Nat) (i : SI) (bs' : List Bool) (w : World) := RetU (fun _ => Value.tuple #[]) (stp g n i) (fun j => stp g n j) (fun j => Okk bs' j) w
theorem set_c (w : World) (g : Nat) (bs : List Bool) (i : SI) (ho : Okk bs i) (h : (stp g bs.length i).pred w) (hn : (stp g bs.length i).foot.Nodup) (x : Int) (hx64 : -9223372036854775808 ≤ x ∧ x ≤ 9223372036854775807) :
    Calls Tryd.prog 11 [ptr g, .int .i64 x].toArray w (RetS g bs.length i (withB bs x true) w) := by
  have hr := RdS.of h ho.len
  refine calls (n := 20) Tryd.func11 rfl Tryd.ntmps11 rfl ?_
  refine CW.sub (H' := SH w (stp g bs.length i).foot [stp g bs.length i]) ?_ (Sub.refl _) (fun x hx => SH.startOf' hx h hn)
  refine CW.seq (CW.region ?_)
  refine RW.move rfl rfl ?_
  refine RW.move rfl rfl ?_
  -- mq: op 2: ('Op.call', ('Call.mk', ('Callee.value', ('Operand.func', '26')), ('arr', ('Operand.tmp', '4'), ('Operand.tmp', '5')), ('arr', '25', '3'))) -> slot 6 ("tabs.go:51")
  refine RW.call rfl ca26 rfl (fun w' hw' => in_c w' g _ i (RdS.of (hw'.has Has.head) ho.len) x) ?_
  refine RW.nil (EX.seq ?_)
  -- mq: cond
  first | refine CW.condD rfl (fun h0 => ?_) (fun h0 => ?_) | refine CW.cond rfl (fun h0 => ?_) (fun h0 => ?_)
  · skip
    obtain ⟨y, rfl⟩ : ∃ y : Nat, x = (y : Int) := ⟨x.toNat, by omega⟩
    have hy : y < bs.length := by omega
    obtain ⟨v, hv, hv64, hq⟩ := word_of ho hy
    have hmi := ho.len
    obtain ⟨A, m, c, ws⟩ := i
    dsimp only at hv hq hmi
    refine CW.unboth Rem.head ?_
    refine CW.formOwn (Has.tail Has.head) (fun A' c' he _ _ _ hf => ?_)
    injection he with e1 e2 e3
    subst e1 e3
    obtain ⟨a, ha⟩ := hf (by show 0 < m; omega)
    dsimp only at ha
    subst ha
    have hset := EW.all_set (j := 0) (a' := v ||| 2 ^ (y % 64)) (v := .int .u64 ((v ||| 2 ^ (y % 64) : Nat) : Int)) hv (by decide) rfl
    refine CW.drawU [0, 1, 2, 3, 4, 5, 6, 7, 8, 9, 10, 11, 12] 1 [[(13, true, [])]] (SH w (stp g bs.length ⟨some ⟨a, 0, none⟩, m, c, ws⟩).foot [blk g (stE bs.length ⟨some ⟨a, 0, none⟩, m, c, ws⟩) 53, own 54 1 (.slice (some ⟨a, 0, none⟩) m c) m (EW.all ws)]) mixed (by kernel_rfl) (fun _ hw => hw.drew) (fun _ h => (by first | trivial | exact h | exact h.ch | exact (h.rem Rem.head).ch | exact ((h.rem Rem.head).rem Rem.head).ch | exact (((h.rem Rem.head).rem Rem.head).rem Rem.head).ch)) ?_
    refine QuP.cons rfl (fun wq hq => (RW.move rfl rfl RW.jn)) ?_
    refine QuP.cons rfl (fun wq hq => (RW.nilChk rfl rfl RW.jn)) ?_
    refine QuP.cons rfl (fun wq hq => (RW.fieldB fl53x0 rfl rfl RW.jn)) ?_
    refine QuP.cons rfl (fun wq hq => (RW.load1 sc51 rfl rfl (fun w1 e1 => by subst e1; exact hq.blk_cell (by first | exact Has.head | exact Has.tail Has.head | exact Has.tail (Has.tail Has.head) | exact Has.tail (Has.tail (Has.tail Has.head)) | exact Has.tail (Has.tail (Has.tail (Has.tail Has.head))) | exact Has.tail (Has.tail (Has.tail (Has.tail (Has.tail Has.head)))) | exact Has.tail (Has.tail (Has.tail (Has.tail (Has.tail (Has.tail Has.head)))))) rfl) RW.jn)) ?_
    refine QuP.cons rfl (fun wq hq => (RW.move rfl rfl RW.jn)) ?_
    refine QuP.cons rfl (fun wq hq => (RW.quoN rfl rfl rfl (by omega) (by omega) (by omega) RW.jn)) ?_
    refine QuP.cons rfl (fun wq hq => (RW.ixAddr (q := y / 64) sl51 rfl rfl rfl (by first | rfl | assumption) (by omega) (by omega) RW.jn)) ?_
    refine QuP.cons rfl (fun wq hq => (RW.load1 sc54 rfl rfl (fun w1 e1 => by subst e1; exact (own_word hq (Has.tail Has.head) hv)) RW.jn)) ?_
    refine QuP.cons rfl (fun wq hq => (RW.move rfl rfl RW.jn)) ?_
    refine QuP.cons rfl (fun wq hq => (RW.remN rfl rfl rfl (by omega) (by omega) RW.jn)) ?_
    refine QuP.cons rfl (fun wq hq => (RW.shlN (r := ((2 ^ (y % 64) : Nat) : Int)) rfl rfl rfl (by omega) (shl64 y) RW.jn)) ?_
    refine QuP.cons rfl (fun wq hq => (RW.or_ (r := ((v ||| 2 ^ (y % 64) : Nat) : Int)) rfl rfl rfl (or_eq (m := v) (n := 2 ^ (y % 64)) rfl rfl hv64 (pow64 y) (w64 (or_lt hv64 (Nat.mod_lt _ (by decide))))) RW.jn)) ?_
    refine QuP.cons rfl (fun wq hq => (RW.ixAddr (q := y / 64) sl51 rfl rfl rfl (by first | rfl | assumption) (by omega) (by omega) RW.jn)) ?_
    refine QuP.nil ?_
    refine UW.step [_] rfl (List.forall_mem_cons.2 ⟨?_, by simp⟩)
    refine RW.storeOwn1 (o := y / 64) sc54 rfl rfl (by first | exact Upd.head | exact Upd.tail Upd.head | exact Upd.tail (Upd.tail Upd.head) | exact Upd.tail (Upd.tail (Upd.tail Upd.head)) | exact Upd.tail (Upd.tail (Upd.tail (Upd.tail Upd.head))) | exact Upd.tail (Upd.tail (Upd.tail (Upd.tail (Upd.tail Upd.head)))) | exact Upd.tail (Upd.tail (Upd.tail (Upd.tail (Upd.tail (Upd.tail Upd.head)))))) (by simp [Addr.add_lit]) rfl (by rw [EW.all_length]; show _ < ws.length * 1; omega) ?_
    refine RW.st (fun _ => True) (fun _ _ => .inl rfl) (fun _ h => trivial) ?_
    refine QuP.nil ?_
    refine UW.nil ?_
    refine EX.fin0N Tryd.results11 (fun wz hw => ?_)
    -- mq: done
    rw [show y / 64 * EW.sz + 0 = y / 64 by simp [EW]] at hset
    dsimp only at hw
    rw [hset] at hw
    refine RetU.of (⟨some ⟨a, 0, none⟩, m, c, ws.set (y / 64) (v ||| 2 ^ (y % 64))⟩ : SI) ⟨ho.rp.set hv hy, by rw [withB_len]; exact ho.le, by simpa using hmi, ho.m16⟩ (hw.both Rem.head Rem.head)
  · skip
    refine CW.skip ?_
    refine EX.fin0N Tryd.results11 (fun wz hw => ?_)
    -- mq: done
    rw [withB_out h0]
    exact RetU.of i ho hw
theorem clear_c (w : World) (g : Nat) (bs : List Bool) (i : SI) (ho : Okk bs i) (h : (stp g bs.length i).pred w) (hn : (stp g bs.length i).foot.Nodup) (x : Int) (hx64 : -9223372036854775808 ≤ x ∧ x ≤ 9223372036854775807) :
    Calls Tryd.prog 13 [ptr g, .int .i64 x].toArray w (RetS g bs.length i (withB bs x false) w) := by
  have hr := RdS.of h ho.len
  refine calls (n := 20) Tryd.func13 rfl Tryd.ntmps13 rfl ?_
  refine CW.sub (H' := SH w (stp g bs.length i).foot [stp g bs.length i]) ?_ (Sub.refl _) (fun x hx => SH.startOf' hx h hn)
  refine CW.seq (CW.region ?_)
  refine RW.move rfl rfl ?_
  refine RW.move rfl rfl ?_
  -- mq: op 2: ('Op.call', ('Call.mk', ('Callee.value', ('Operand.func', '26')), ('arr', ('Operand.tmp', '4'), ('Operand.tmp', '5')), ('arr', '25', '3'))) -> slot 6 ("tabs.go:58")
  refine RW.call rfl ca26 rfl (fun w' hw' => in_c w' g _ i (RdS.of (hw'.has Has.head) ho.len) x) ?_
  refine RW.nil (EX.seq ?_)
  -- mq: cond
  first | refine CW.condD rfl (fun h0 => ?_) (fun h0 => ?_) | refine CW.cond rfl (fun h0 => ?_) (fun h0 => ?_)
  · skip
    obtain ⟨y, rfl⟩ : ∃ y : Nat, x = (y : Int) := ⟨x.toNat, by omega⟩
    have hy : y < bs.length := by omega
    obtain ⟨v, hv, hv64, hq⟩ := word_of ho hy
    have hmi := ho.len
    obtain ⟨A, m, c, ws⟩ := i
    dsimp only at hv hq hmi
    refine CW.unboth Rem.head ?_
    refine CW.formOwn (Has.tail Has.head) (fun A' c' he _ _ _ hf => ?_)
    injection he with e1 e2 e3
    subst e1 e3
    obtain ⟨a, ha⟩ := hf (by show 0 < m; omega)
    dsimp only at ha
    subst ha
    have hset := EW.all_set (j := 0) (a' := v &&& (18446744073709551615 - 2 ^ (y % 64))) (v := .int .u64 ((v &&& (18446744073709551615 - 2 ^ (y % 64)) : Nat) : Int)) hv (by decide) rfl
    refine CW.drawU [0, 1, 2, 3, 4, 5, 6, 7, 8, 9, 10, 11, 12] 1 [[(13, true, [])]] (SH w (stp g bs.length ⟨some ⟨a, 0, none⟩, m, c, ws⟩).foot [blk g (stE bs.length ⟨some ⟨a, 0, none⟩, m, c, ws⟩) 53, own 54 1 (.slice (some ⟨a, 0, none⟩) m c) m (EW.all ws)]) mixed (by kernel_rfl) (fun _ hw => hw.drew) (fun _ h => (by first | trivial | exact h | exact h.ch | exact (h.rem Rem.head).ch | exact ((h.rem Rem.head).rem Rem.head).ch | exact (((h.rem Rem.head).rem Rem.head).rem Rem.head).ch)) ?_
    refine QuP.cons rfl (fun wq hq => (RW.move rfl rfl RW.jn)) ?_
    refine QuP.cons rfl (fun wq hq => (RW.nilChk rfl rfl RW.jn)) ?_
    refine QuP.cons rfl (fun wq hq => (RW.fieldB fl53x0 rfl rfl RW.jn)) ?_
    refine QuP.cons rfl (fun wq hq => (RW.load1 sc51 rfl rfl (fun w1 e1 => by subst e1; exact hq.blk_cell (by first | exact Has.head | exact Has.tail Has.head | exact Has.tail (Has.tail Has.head) | exact Has.tail (Has.tail (Has.tail Has.head)) | exact Has.tail (Has.tail (Has.tail (Has.tail Has.head))) | exact Has.tail (Has.tail (Has.tail (Has.tail (Has.tail Has.head)))) | exact Has.tail (Has.tail (Has.tail (Has.tail (Has.tail (Has.tail Has.head)))))) rfl) RW.jn)) ?_
    refine QuP.cons rfl (fun wq hq => (RW.move rfl rfl RW.jn)) ?_
    refine QuP.cons rfl (fun wq hq => (RW.quoN rfl rfl rfl (by omega) (by omega) (by omega) RW.jn)) ?_
    refine QuP.cons rfl (fun wq hq => (RW.ixAddr (q := y / 64) sl51 rfl rfl rfl (by first | rfl | assumption) (by omega) (by omega) RW.jn)) ?_
    refine QuP.cons rfl (fun wq hq => (RW.load1 sc54 rfl rfl (fun w1 e1 => by subst e1; exact (own_word hq (Has.tail Has.head) hv)) RW.jn)) ?_
    refine QuP.cons rfl (fun wq hq => (RW.move rfl rfl RW.jn)) ?_
    refine QuP.cons rfl (fun wq hq => (RW.remN rfl rfl rfl (by omega) (by omega) RW.jn)) ?_
    refine QuP.cons rfl (fun wq hq => (RW.shlN (r := ((2 ^ (y % 64) : Nat) : Int)) rfl rfl rfl (by omega) (shl64 y) RW.jn)) ?_
    refine QuP.cons rfl (fun wq hq => (RW.andNot_ (r := ((v &&& (18446744073709551615 - 2 ^ (y % 64)) : Nat) : Int)) rfl rfl rfl (andNot_eq (m := v) (n := 2 ^ (y % 64)) rfl rfl hv64 (pow64 y) (w64 (Nat.lt_of_le_of_lt Nat.and_le_left hv64))) RW.jn)) ?_
    refine QuP.cons rfl (fun wq hq => (RW.ixAddr (q := y / 64) sl51 rfl rfl rfl (by first | rfl | assumption) (by omega) (by omega) RW.jn)) ?_
    refine QuP.nil ?_
    refine UW.step [_] rfl (List.forall_mem_cons.2 ⟨?_, by simp⟩)
    refine RW.storeOwn1 (o := y / 64) sc54 rfl rfl (by first | exact Upd.head | exact Upd.tail Upd.head | exact Upd.tail (Upd.tail Upd.head) | exact Upd.tail (Upd.tail (Upd.tail Upd.head)) | exact Upd.tail (Upd.tail (Upd.tail (Upd.tail Upd.head))) | exact Upd.tail (Upd.tail (Upd.tail (Upd.tail (Upd.tail Upd.head)))) | exact Upd.tail (Upd.tail (Upd.tail (Upd.tail (Upd.tail (Upd.tail Upd.head)))))) (by simp [Addr.add_lit]) rfl (by rw [EW.all_length]; show _ < ws.length * 1; omega) ?_
    refine RW.st (fun _ => True) (fun _ _ => .inl rfl) (fun _ h => trivial) ?_
    refine QuP.nil ?_
    refine UW.nil ?_
    refine EX.fin0N Tryd.results13 (fun wz hw => ?_)
    -- mq: done
    rw [show y / 64 * EW.sz + 0 = y / 64 by simp [EW]] at hset
    dsimp only at hw
    rw [hset] at hw
    refine RetU.of (⟨some ⟨a, 0, none⟩, m, c, ws.set (y / 64) (v &&& (18446744073709551615 - 2 ^ (y % 64)))⟩ : SI) ⟨ho.rp.clr hv hy, by rw [withB_len]; exact ho.le, by simpa using hmi, ho.m16⟩ (hw.both Rem.head Rem.head)
  · skip
    refine CW.skip ?_
    refine EX.fin0N Tryd.results13 (fun wz hw => ?_)
    -- mq: done
    rw [withB_out h0]
    exact RetU.of i ho hw
theorem EW_zeros : ∀ m : Nat, EW.all (List.replicate m 0) = List.replicate m (Value.int .u64 0)
  | 0 => rfl
  | m + 1 => by rw [List.replicate_succ, List.replicate_succ, ← EW_zeros m]; rfl
theorem none_c (w : World) (g : Nat) (bs : List Bool) (i : SI) (ho : Okk bs i) (h : (stp g bs.length i).pred w) (hn : (stp g bs.length i).foot.Nodup) (hp : 0 < bs.length) :
    Calls Tryd.prog 16 [ptr g].toArray w (RetS g bs.length i (List.replicate bs.length false) w) := by
  refine calls (n := 8) Tryd.func16 rfl Tryd.ntmps16 rfl ?_
  refine CW.sub (H' := SH w (stp g bs.length i).foot [stp g bs.length i]) ?_ (Sub.refl _) (fun x hx => SH.startOf' hx h hn)
  refine CW.seq (CW.region ?_)
  refine RW.move rfl rfl ?_
  refine RW.neqP Tryd.underlying25 rfl rfl rfl ?_
  refine RW.nil (EX.seq ?_)
  -- mq: cond
  refine CW.condT rfl (rfl) ?_
  have hcov := ho.rp.cov
  have hmi := ho.len
  obtain ⟨A, m, c, ws⟩ := i
  dsimp only at hcov hmi
  refine CW.unboth Rem.head ?_
  refine CW.formOwn (Has.tail Has.head) (fun A' c' he _ _ _ hf => ?_)
  injection he with e1 e2 e3
  subst e1 e3
  obtain ⟨a, ha⟩ := hf (by show 0 < m; omega)
  dsimp only at ha
  subst ha
  have hz := EW_zeros m
  refine CW.region ?_
  refine RW.move rfl rfl ?_
  refine RW.nilChk rfl rfl ?_
  refine RW.fieldB fl53x0 rfl rfl ?_
  refine RW.loadB1 sc51 rfl rfl (by first | exact Has.head | exact Has.tail Has.head | exact Has.tail (Has.tail Has.head) | exact Has.tail (Has.tail (Has.tail Has.head)) | exact Has.tail (Has.tail (Has.tail (Has.tail Has.head))) | exact Has.tail (Has.tail (Has.tail (Has.tail (Has.tail Has.head)))) | exact Has.tail (Has.tail (Has.tail (Has.tail (Has.tail (Has.tail Has.head)))))) rfl ?_
  refine RW.clearOwn Tryd.underlying51 Tryd.zeroValue54 rfl rfl (show 0 < m by omega) rfl (by first | exact Upd.head | exact Upd.tail Upd.head | exact Upd.tail (Upd.tail Upd.head) | exact Upd.tail (Upd.tail (Upd.tail Upd.head)) | exact Upd.tail (Upd.tail (Upd.tail (Upd.tail Upd.head))) | exact Upd.tail (Upd.tail (Upd.tail (Upd.tail (Upd.tail Upd.head)))) | exact Upd.tail (Upd.tail (Upd.tail (Upd.tail (Upd.tail (Upd.tail Upd.head)))))) ?_
  refine RW.nil ?_
  refine EX.fin0N Tryd.results16 (fun wz hw => ?_)
  -- mq: done
  rw [← hz] at hw
  exact RetU.of (⟨some ⟨a, 0, none⟩, m, c, List.replicate m 0⟩ : SI) ⟨Rp.zeros m bs.length (by omega), by simpa using ho.le, by simp, ho.m16⟩ (hw.both Rem.head Rem.head)
theorem none_nil (w : World) : Calls Tryd.prog 16 [.pointer none].toArray w (fun e w' => e = .returned (.tuple #[]) ∧ Ext [] w w') := by
  refine calls (n := 8) Tryd.func16 rfl Tryd.ntmps16 rfl ?_
  refine CW.sub (H' := SH w [] []) ?_ (Sub.refl _) (fun x hx => SH.start' _ _ hx)
  refine CW.seq (CW.region ?_)
  refine RW.move rfl rfl ?_
  refine RW.neqP Tryd.underlying25 rfl rfl rfl ?_
  refine RW.nil (EX.seq ?_)
  -- mq: cond
  refine CW.condF rfl (rfl) ?_
  refine CW.skip ?_
  refine EX.fin0N Tryd.results16 (fun wz hw => ?_)
  -- mq: done
  exact ⟨rfl, hw.ext⟩
theorem set_nil (w : World) (x : Int) : Calls Tryd.prog 11 [.pointer none, .int .i64 x].toArray w (fun e w' => e = .returned (.tuple #[]) ∧ Ext [] w w') := by
  refine calls (n := 20) Tryd.func11 rfl Tryd.ntmps11 rfl ?_
  refine CW.sub (H' := SH w [] []) ?_ (Sub.refl _) (fun x hx => SH.start' _ _ hx)
  refine CW.seq (CW.region ?_)
  refine RW.move rfl rfl ?_
  refine RW.move rfl rfl ?_
  -- mq: op 2: ('Op.call', ('Call.mk', ('Callee.value', ('Operand.func', '26')), ('arr', ('Operand.tmp', '4'), ('Operand.tmp', '5')), ('arr', '25', '3'))) -> slot 6 ("tabs.go:51")
  refine RW.call rfl ca26 rfl (fun w' hw' => in_nil w' x) ?_
  refine RW.nil (EX.seq ?_)
  -- mq: cond
  refine CW.condF rfl (rfl) ?_
  refine CW.skip ?_
  refine EX.fin0N Tryd.results11 (fun wz hw => ?_)
  -- mq: done
  exact ⟨rfl, hw.ext⟩
theorem clear_nil (w : World) (x : Int) : Calls Tryd.prog 13 [.pointer none, .int .i64 x].toArray w (fun e w' => e = .returned (.tuple #[]) ∧ Ext [] w w') := by
  refine calls (n := 20) Tryd.func13 rfl Tryd.ntmps13 rfl ?_
  refine CW.sub (H' := SH w [] []) ?_ (Sub.refl _) (fun x hx => SH.start' _ _ hx)
  refine CW.seq (CW.region ?_)
  refine RW.move rfl rfl ?_
  refine RW.move rfl rfl ?_
  -- mq: op 2: ('Op.call', ('Call.mk', ('Callee.value', ('Operand.func', '26')), ('arr', ('Operand.tmp', '4'), ('Operand.tmp', '5')), ('arr', '25', '3'))) -> slot 6 ("tabs.go:58")
  refine RW.call rfl ca26 rfl (fun w' hw' => in_nil w' x) ?_
  refine RW.nil (EX.seq ?_)
  -- mq: cond
  refine CW.condF rfl (rfl) ?_
  refine CW.skip ?_
  refine EX.fin0N Tryd.results13 (fun wz hw => ?_)
  -- mq: done
  exact ⟨rfl, hw.ext⟩
theorem has_nil (w : World) (x : Int) : Calls Tryd.prog 12 [.pointer none, .int .i64 x].toArray w (fun e w' => e = .returned (.bool false) ∧ Ext [] w w') := by
  refine calls (n := 23) Tryd.func12 rfl Tryd.ntmps12 rfl ?_
  refine CW.sub (H' := SH w [] []) ?_ (Sub.refl _) (fun x hx => SH.start' _ _ hx)
  refine CW.seq (CW.region ?_)
  refine RW.assign rfl rfl ?_
  refine RW.nil (EX.seq (CW.seq (CW.region ?_)))
  refine RW.move rfl rfl ?_
  refine RW.move rfl rfl ?_
  -- mq: op 2: ('Op.call', ('Call.mk', ('Callee.value', ('Operand.func', '26')), ('arr', ('Operand.tmp', '5'), ('Operand.tmp', '6')), ('arr', '25', '3'))) -> slot 7 ("tabs.go:47")
  refine RW.call rfl ca26 rfl (fun w' hw' => in_nil w' x) ?_
  refine RW.move rfl rfl ?_
  refine RW.guardF rfl rfl rfl rfl ?_
  refine RW.guardF rfl rfl rfl rfl ?_
  refine RW.guardF rfl rfl rfl rfl ?_
  refine RW.guardF rfl rfl rfl rfl ?_
  refine RW.guardF rfl rfl rfl rfl ?_
  refine RW.guardF rfl rfl rfl rfl ?_
  refine RW.guardF rfl rfl rfl rfl ?_
  refine RW.guardF rfl rfl rfl rfl ?_
  refine RW.guardF rfl rfl rfl rfl ?_
  refine RW.guardF rfl rfl rfl rfl ?_
  refine RW.guardF rfl rfl rfl rfl ?_
  refine RW.guardF rfl rfl rfl rfl ?_
  refine RW.guardF rfl rfl rfl rfl ?_
  refine RW.pickC rfl rfl rfl rfl ?_
  refine RW.assign rfl rfl ?_
  refine RW.nil (EX.seq (CW.ret ?_))
  refine EX.fin1 Tryd.results12 rfl (fun wz hw => ?_)
  -- mq: done
  exact ⟨rfl, hw.ext⟩
end Go.Proofs.YthfbdbahggklnaaDoor.Mq
