/- strconv.FormatUint at base 10: walked, its callees by the shelf's contracts -/
import Derived.Test.YtnkdabjahmjdoaaDoorNum
import Derived.Test.YtnkdabjahmjdoaaDoorSpl
namespace Go.Proofs.YtnkdabjahmjdoaaDoor.Mq
open Go Go.RowKit Go.Proofs

def lays283_ren : Shelf.Ren := ⟨fun | 283 => 61 | n => n, fun | 3 => 3 | 4 => 4 | 9 => 9 | n => n, fun n => n⟩
theorem lays283 : Lays.n283 Tryd.prog lays283_ren where
  mixed := by kernel_rfl
  f283 := Tryd.func61.trans (congrArg some (by kernel_rfl))
  t3 := Tryd.underlying3
  a3 := Tryd.isAgg3
  z3 := Tryd.sizeOf3
  v3 := Tryd.zeroValue3
  t4 := Tryd.underlying4
  a4 := Tryd.isAgg4
  z4 := Tryd.sizeOf4
  v4 := Tryd.zeroValue4
  t9 := Tryd.underlying9
  a9 := Tryd.isAgg9
  z9 := Tryd.sizeOf9
  v9 := Tryd.zeroValue9
def lays284_ren : Shelf.Ren := ⟨fun | 129 => 77 | 284 => 62 | 317 => 76 | 318 => 78 | n => n, fun | 0 => 0 | 3 => 3 | 4 => 4 | 5 => 5 | 9 => 9 | 46 => 87 | 53 => 22 | 212 => 106 | n => n, fun | 17 => 0 | n => n⟩
theorem lays284 : LaysM.n284 Tryd.prog lays284_ren where
  mixed := by kernel_rfl
  f129 := Tryd.func77.trans (congrArg some (by kernel_rfl))
  f284 := Tryd.func62.trans (congrArg some (by kernel_rfl))
  f317 := Tryd.func76.trans (congrArg some (by kernel_rfl))
  f318 := Tryd.func78.trans (congrArg some (by kernel_rfl))
  t0 := Tryd.underlying0
  a0 := Tryd.isAgg0
  z0 := Tryd.sizeOf0
  v0 := Tryd.zeroValue0
  t3 := Tryd.underlying3
  a3 := Tryd.isAgg3
  z3 := Tryd.sizeOf3
  v3 := Tryd.zeroValue3
  t4 := Tryd.underlying4
  a4 := Tryd.isAgg4
  z4 := Tryd.sizeOf4
  v4 := Tryd.zeroValue4
  t5 := Tryd.underlying5
  a5 := Tryd.isAgg5
  z5 := Tryd.sizeOf5
  v5 := Tryd.zeroValue5
  t9 := Tryd.underlying9
  a9 := Tryd.isAgg9
  z9 := Tryd.sizeOf9
  v9 := Tryd.zeroValue9
  t46 := Tryd.underlying87
  a46 := Tryd.isAgg87
  z46 := Tryd.sizeOf87
  v46 := Tryd.zeroValue87
  t53 := Tryd.underlying22
  a53 := Tryd.isAgg22
  z53 := Tryd.sizeOf22
  v53 := Tryd.zeroValue22
  t212 := Tryd.underlying106
  a212 := Tryd.isAgg106
  z212 := Tryd.sizeOf106
  v212 := Tryd.zeroValue106
  g17 := by kernel_rfl
  i0 := by kernel_rfl
  i3 := by kernel_rfl
  i4 := by kernel_rfl
  i5 := by kernel_rfl
  i9 := by kernel_rfl
  i46 := by kernel_rfl
  i53 := by kernel_rfl
  i212 := by kernel_rfl
  m17 := by kernel_rfl
def lays285_ren : Shelf.Ren := ⟨fun | 285 => 63 | n => n, fun | 0 => 0 | 3 => 3 | 4 => 4 | 5 => 5 | 9 => 9 | 37 => 53 | 51 => 107 | 53 => 22 | n => n, fun n => n⟩
theorem lays285 : Lays.n285 Tryd.prog lays285_ren where
  mixed := by kernel_rfl
  f285 := Tryd.func63.trans (congrArg some (by kernel_rfl))
  t0 := Tryd.underlying0
  a0 := Tryd.isAgg0
  z0 := Tryd.sizeOf0
  v0 := Tryd.zeroValue0
  t3 := Tryd.underlying3
  a3 := Tryd.isAgg3
  z3 := Tryd.sizeOf3
  v3 := Tryd.zeroValue3
  t4 := Tryd.underlying4
  a4 := Tryd.isAgg4
  z4 := Tryd.sizeOf4
  v4 := Tryd.zeroValue4
  t5 := Tryd.underlying5
  a5 := Tryd.isAgg5
  z5 := Tryd.sizeOf5
  v5 := Tryd.zeroValue5
  t9 := Tryd.underlying9
  a9 := Tryd.isAgg9
  z9 := Tryd.sizeOf9
  v9 := Tryd.zeroValue9
  t37 := Tryd.underlying53
  a37 := Tryd.isAgg53
  z37 := Tryd.sizeOf53
  v37 := Tryd.zeroValue53
  t51 := Tryd.underlying107
  a51 := Tryd.isAgg107
  z51 := Tryd.sizeOf107
  v51 := Tryd.zeroValue107
  t53 := Tryd.underlying22
  a53 := Tryd.isAgg22
  z53 := Tryd.sizeOf22
  v53 := Tryd.zeroValue22
theorem dec_len20' {u : Nat} (h : u < 18446744073709551616) : (Lib.decDigits u).length ≤ 20 := dec_len (k := 19) (by omega)
theorem caFmtU : CaT Tryd.prog 51 := CaT.of Tryd.func51 (by kernel_rfl) (by kernel_rfl)
theorem caSmall : CaT Tryd.prog 61 := CaT.of Tryd.func61 (by kernel_rfl) (by kernel_rfl)
theorem caNumD : CaT Tryd.prog 62 := CaT.of Tryd.func62 (by kernel_rfl) (by kernel_rfl)
theorem caFmt10 : CaT Tryd.prog 63 := CaT.of Tryd.func63 (by kernel_rfl) (by kernel_rfl)
def z24 : List Value := [.int .u8 0, .int .u8 0, .int .u8 0, .int .u8 0, .int .u8 0, .int .u8 0, .int .u8 0, .int .u8 0, .int .u8 0, .int .u8 0, .int .u8 0, .int .u8 0, .int .u8 0, .int .u8 0, .int .u8 0, .int .u8 0, .int .u8 0, .int .u8 0, .int .u8 0, .int .u8 0, .int .u8 0, .int .u8 0, .int .u8 0, .int .u8 0]
theorem z24_at : ∀ j, j < 24 → z24[j]? = some (.int .u8 0) := fun j hj => by
  have e : z24 = List.replicate 24 (.int .u8 0) := rfl
  rw [e, List.getElem?_replicate, if_pos hj]
section
variable {P : Program} {n : Nat} {ops : Array Oper} {Q : Post} {rest : List Oper} {l : Fr} {H : World → Prop} {d : Nat} {ty : TypeId} {pos : String} {af : Array Edge}
theorem RW.sliceArrH {x hi : Operand} {t e len sz : Nat} {g : Nat} {v : Int} (m : Nat) (ht : P.underlying t = some (.array len e)) (hsz : ∀ w, (Go.sizeOf e).run P w = .ok sz w) (hd : Nat.blt d n = true) (hx : ev l x = some (.pointer (some ⟨g, 0, none⟩))) (hhi : ev l hi = some (.int .i64 v)) (hv : v = (m : Int)) (hm : m ≤ len)
    (h : RW P n ops Q rest ((d, .slice (some ⟨g, 0, none⟩) m len) :: l) H) : RW P n ops Q (⟨some d, .slice t x none (some hi) none, ty, pos, af, none⟩ :: rest) l H := by
  refine RW.val _ hd (fun ρ w hρ => ?_) h
  have hal : P.arrayLen t = len := by simp [Program.arrayLen, ht]
  have hel : P.elem t = e := by simp [Program.elem, ht]
  have hr := run_sliceAt_array_h (P := P) w t ⟨g, 0, none⟩ (by rw [hal, hel]; exact ht) .i64 v (by omega) (by rw [hal]; omega)
  rw [hel, hsz, hal] at hr
  have hs : slicedAt ⟨g, 0, none⟩ 0 v.toNat len sz = .slice (some ⟨g, 0, none⟩) m len := by
    subst hv
    simp [slicedAt, Addr.add]
  simp only [execOp, hρ x _ hx, Option.map_none, Option.map_some, hρ hi _ hhi]
  rw [Sem.run_bind, hr]
  simp [hs]
end
abbrev u8V (b : UInt8) : Value := .int .u8 (b.toNat : Int)
theorem ext_putRow (w : World) (g : Nat) (dk : Array UInt8) (k : Nat) : Ext [g] w ((Sort.putRow u8V w g 0 dk).drewN k) := by
  refine ⟨rfl, rfl, rfl, ?_, fun b hb hn => ?_⟩
  · show w.heap.size ≤ (w.heap.modify g _).size
    simp
  · show (w.heap.modify g _)[b]? = w.heap[b]?
    rw [Array.getElem?_modify, if_neg (fun e => hn (by simp [e]))]
theorem fmtU_c (w : World) (hg : Gl w) (u : Nat) (hu : u < 18446744073709551616) :
    Calls Tryd.prog 51 [.int .u64 (u : Int), .int .i64 10].toArray w (fun e w' => e = .returned (.string (bs (Lib.decDigits u))) ∧ Ext [] w w') := by
  refine calls (n := 32) Tryd.func51 rfl Tryd.ntmps51 rfl ?_
  refine CW.sub (H' := SH w [] []) ?_ (Sub.refl _) (fun x hx => SH.start' _ _ hx)
  refine CW.seq (CW.region ?_)
  refine RW.assign rfl rfl ?_
  refine RW.nil (EX.seq (CW.seq (CW.seq (CW.region ?_))))
  refine RW.move rfl rfl ?_
  refine RW.eqlI rfl rfl rfl ?_
  refine RW.nil (EX.seq ?_)
  -- mq: cond
  refine CW.condT rfl (rfl) ?_
  refine CW.seq (CW.seq (CW.region ?_))
  refine RW.move rfl rfl ?_
  refine RW.lss rfl rfl rfl ?_
  refine RW.nil (EX.seq ?_)
  -- mq: cond
  first | refine CW.condD rfl (fun h1 => ?_) (fun h1 => ?_) | refine CW.cond rfl (fun h1 => ?_) (fun h1 => ?_)
  · skip
    refine CW.seq (CW.region ?_)
    refine RW.move rfl rfl ?_
    refine RW.convI rfl rfl Tryd.underlying22 Tryd.underlying3 (wrap64 (by omega) (by omega)) ?_
    refine RW.call rfl caSmall rfl (fun w' _ => (Any.internal_strconv_small lays283 u (by omega) w').mono (fun e w'' h => ⟨h.1, h.2 ▸ Ext.refl _ _⟩)) ?_
    refine RW.assign rfl rfl ?_
    refine RW.nil (EX.seq (CW.ret (EX.seqR (EX.seqR ?_))))
    refine EX.fin1 Tryd.results51 rfl (fun wz hw => ?_)
    -- mq: done
    exact ⟨rfl, hw.ext⟩
  · skip
    have hu1 : 1 ≤ u := by omega
    have hnd : Lib.nDigits u ≤ 20 := by have := dec_len20' hu; rwa [Lib.decDigits_length] at this
    refine CW.skip (EX.seq (CW.seq (CW.region ?_)))
    refine RW.allocA ag93 rfl (fun g5 hg5 hf5 => ?_)
    refine RW.nil (EX.seq (CW.seq (CW.region ?_)))
    refine RW.move rfl rfl ?_
    refine RW.call (v := .int .i64 (Lib.nDigits u : Int)) rfl caNumD rfl (fun w' hw' => (Any.internal_strconv_numDigits lays284 u hu1 hu w' (hg.ext hw'.ext)).mono (fun e w'' h => ⟨h.1, h.2 ▸ Ext.refl _ _⟩)) ?_
    refine RW.assign rfl rfl ?_
    refine RW.nil (EX.seq (CW.seq ?_))
    -- mq: region
    refine CW.region ?_
    refine RW.move rfl rfl ?_
    -- mq: at
    refine RW.sliceArrH (Lib.nDigits u) Tryd.underlying93 Tryd.sizeOf5 rfl rfl rfl rfl (by omega) ?_
    refine RW.move rfl rfl ?_
    -- mq: op 3: ('Op.call', ('Call.mk', ('Callee.value', ('Operand.func', '63')), ('arr', ('Operand.tmp', '19'), ('Operand.tmp', '20')), ('arr', '53', '22'))) -> slot 21 ("itoa.go:19")
    refine RW.callG rfl rfl caFmt10 rfl (fun w1 hw1 => ?_)
    have hH : Sort.Holds u8V w1 g5 0 (Array.replicate (Lib.nDigits u) 0) := fun j hj => by
      have hj' : j < Lib.nDigits u := by simpa using hj
      have hb := hw1.has (Has.head)
      refine ⟨?_, ?_⟩
      · rw [Nat.zero_add, hw1.blk_cell Has.head (z24_at j (by omega)), getElem!_pos _ j hj]; simp
      · simp only [World.frozen?, show w1.heap[g5]? = some (.cells z24.toArray 93 (0, 0)) from hb]; simp
    have hfmt := Any.internal_strconv_formatBase10 lays285 g5 0 24 u (Array.replicate (Lib.nDigits u) 0) w1 hH (by rw [Array.size_replicate]; exact Lib.lt_pow_nDigits u) hu (by rw [Array.size_replicate]; omega)
    rw [Array.size_replicate] at hfmt
    refine hfmt.mono ?_
    rintro e w2 ⟨rfl, k, v', dk, rfl, hF⟩
    refine ⟨_, rfl, ?_⟩
    have hx2 : Ext [] w ((Sort.putRow u8V w1 g5 0 dk).drewN k) := hw1.ext.trans (ext_putRow w1 g5 dk k) (fun x hx hlt => by rw [List.mem_singleton.1 hx] at hlt; omega)
    have hrd : Rd EU8 ((Sort.putRow u8V w1 g5 0 dk).drewN k) (fun _ => True) (some ⟨g5, 0, none⟩) (Lib.nDigits u) 24 (Lib.decDigits u) := by
      refine ⟨Lib.decDigits_length u, by omega, by decide, fun _ => ⟨_, rfl, trivial, fun i a j x hi hj => ?_⟩⟩
      have hil := (List.getElem?_eq_some_iff.1 hi)
      obtain ⟨hil, ha⟩ := hil
      have hnd2 : i < Lib.nDigits u := by rw [← Lib.decDigits_length]; exact hil
      have h0 : j = 0 ∧ x = u8V a := by
        cases j with
        | zero => exact ⟨rfl, by simpa [EU8] using hj.symm⟩
        | succ j => simp [EU8] at hj
      obtain ⟨rfl, rfl⟩ := h0
      rw [Addr.add_lit, Addr.add_lit, World.cell?_drewN]
      have hc := Sort.cell?_putRow u8V w1 g5 0 _ dk hH (by rw [hF.size, Array.size_replicate]) i (by rw [hF.size]; exact hnd2)
      rw [← Lib.row_is_numeral hF i hil, ha] at hc
      rw [show 0 + i * EU8.sz + 0 = 0 + i from by show 0 + i * 1 + 0 = _; omega]
      exact hc
    generalize (Sort.putRow u8V w1 g5 0 dk).drewN k = w3 at hx2 hrd ⊢
    refine RW.nil (EX.seq (CW.seq ?_))
    -- mq: region
    refine CW.region ?_
    refine RW.move rfl rfl ?_
    -- mq: at
    refine RW.sliceArrH (Lib.nDigits u) Tryd.underlying93 Tryd.sizeOf5 rfl rfl rfl rfl (by omega) ?_
    refine RW.bytesStr (s := Lib.decDigits u) Tryd.underlying53 Tryd.underlying5 Tryd.underlying9 rfl rfl (fun w' hw' => hw' ▸ hrd) ?_
    refine RW.assign rfl rfl ?_
    refine RW.nil (EX.seq (CW.ret (EX.seqR ?_)))
    refine EX.fin1 Tryd.results51 rfl (fun wz hw => ?_)
    -- mq: done
    subst hw
    exact ⟨rfl, hx2⟩
theorem formatUint_c (w : World) (hg : Gl w) (u : Nat) (hu : u < 18446744073709551616) :
    Calls Tryd.prog 23 [.int .u64 (u : Int), .int .i64 10].toArray w (fun e w' => e = .returned (.string (bs (Lib.decDigits u))) ∧ Ext [] w w') := by
  refine calls (n := 8) Tryd.func23 rfl Tryd.ntmps23 rfl ?_
  refine CW.sub (H' := SH w [] []) ?_ (Sub.refl _) (fun x hx => SH.start' _ _ hx)
  refine CW.seq (CW.region ?_)
  refine RW.assign rfl rfl ?_
  refine RW.nil (EX.seq (CW.seq (CW.region ?_)))
  refine RW.move rfl rfl ?_
  refine RW.move rfl rfl ?_
  refine RW.call rfl caFmtU rfl (fun w' hw' => fmtU_c w' (hg.ext hw'.ext) u hu) ?_
  refine RW.assign rfl rfl ?_
  refine RW.nil (EX.seq (CW.ret ?_))
  refine EX.fin1 Tryd.results23 rfl (fun wz hw => ?_)
  -- mq: done
  exact ⟨rfl, hw.ext⟩
end Go.Proofs.YtnkdabjahmjdoaaDoor.Mq
