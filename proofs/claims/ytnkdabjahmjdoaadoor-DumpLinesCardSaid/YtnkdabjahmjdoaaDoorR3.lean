/- dump: ParseUint of two bytes; the reader of a phase -/
import Derived.Test.YtnkdabjahmjdoaaDoorR2
import Derived.Test.YtnkdabjahmjdoaaDoorPu16
import Derived.Test.YtnkdabjahmjdoaaDoorCut
import Derived.Shelf.Pu.ToError
namespace Go.Proofs.YtnkdabjahmjdoaaDoor.Mq
open Go Go.RowKit Go.Proofs

def pu17_ren : Shelf.Ren := ⟨fun | 17 => 71 | 21 => 88 | 22 => 89 | 23 => 90 | 24 => 91 | 25 => 101 | 26 => 102 | 27 => 24 | 28 => 52 | 29 => 65 | 30 => 61 | 31 => 62 | 32 => 63 | 33 => 64 | 34 => 76 | 35 => 77 | 36 => 78 | 37 => 79 | 38 => 80 | 39 => 94 | 40 => 95 | n => n, fun | 0 => 0 | 2 => 2 | 3 => 3 | 4 => 4 | 5 => 5 | 9 => 9 | 20 => 20 | 22 => 22 | 24 => 81 | 34 => 114 | 36 => 87 | 37 => 53 | 39 => 116 | 44 => 123 | 47 => 92 | 48 => 133 | 50 => 135 | 52 => 93 | 55 => 96 | 59 => 106 | 60 => 107 | 61 => 108 | 65 => 125 | 66 => 126 | 67 => 69 | n => n, fun | 0 => 2 | 1 => 3 | 2 => 0 | 3 => 4 | 4 => 5 | n => n⟩
theorem pu17 : LaysPu.n17 Tryd.prog pu17_ren where
  mixed := by kernel_rfl
  f17 := Tryd.func71.trans (congrArg some (by kernel_rfl))
  f21 := Tryd.func88.trans (congrArg some (by kernel_rfl))
  f22 := Tryd.func89.trans (congrArg some (by kernel_rfl))
  f23 := Tryd.func90.trans (congrArg some (by kernel_rfl))
  f24 := Tryd.func91.trans (congrArg some (by kernel_rfl))
  f25 := Tryd.func101.trans (congrArg some (by kernel_rfl))
  f26 := Tryd.func102.trans (congrArg some (by kernel_rfl))
  f27 := Tryd.func24.trans (congrArg some (by kernel_rfl))
  f28 := Tryd.func52.trans (congrArg some (by kernel_rfl))
  f29 := Tryd.func65.trans (congrArg some (by kernel_rfl))
  f30 := Tryd.func61.trans (congrArg some (by kernel_rfl))
  f31 := Tryd.func62.trans (congrArg some (by kernel_rfl))
  f32 := Tryd.func63.trans (congrArg some (by kernel_rfl))
  f33 := Tryd.func64.trans (congrArg some (by kernel_rfl))
  f34 := Tryd.func76.trans (congrArg some (by kernel_rfl))
  f35 := Tryd.func77.trans (congrArg some (by kernel_rfl))
  f36 := Tryd.func78.trans (congrArg some (by kernel_rfl))
  f37 := Tryd.func79.trans (congrArg some (by kernel_rfl))
  f38 := Tryd.func80.trans (congrArg some (by kernel_rfl))
  f39 := Tryd.func94.trans (congrArg some (by kernel_rfl))
  f40 := Tryd.func95.trans (congrArg some (by kernel_rfl))
  t0 := Tryd.underlying0
  a0 := Tryd.isAgg0
  z0 := Tryd.sizeOf0
  v0 := Tryd.zeroValue0
  i0 := by kernel_rfl
  t2 := Tryd.underlying2
  a2 := Tryd.isAgg2
  z2 := Tryd.sizeOf2
  v2 := Tryd.zeroValue2
  i2 := by kernel_rfl
  t3 := Tryd.underlying3
  a3 := Tryd.isAgg3
  z3 := Tryd.sizeOf3
  v3 := Tryd.zeroValue3
  i3 := by kernel_rfl
  t4 := Tryd.underlying4
  a4 := Tryd.isAgg4
  z4 := Tryd.sizeOf4
  v4 := Tryd.zeroValue4
  i4 := by kernel_rfl
  t5 := Tryd.underlying5
  a5 := Tryd.isAgg5
  z5 := Tryd.sizeOf5
  v5 := Tryd.zeroValue5
  i5 := by kernel_rfl
  t9 := Tryd.underlying9
  a9 := Tryd.isAgg9
  z9 := Tryd.sizeOf9
  v9 := Tryd.zeroValue9
  i9 := by kernel_rfl
  t20 := Tryd.underlying20
  a20 := Tryd.isAgg20
  z20 := Tryd.sizeOf20
  v20 := Tryd.zeroValue20
  i20 := by kernel_rfl
  t22 := Tryd.underlying22
  a22 := Tryd.isAgg22
  z22 := Tryd.sizeOf22
  v22 := Tryd.zeroValue22
  i22 := by kernel_rfl
  t24 := Tryd.underlying81
  a24 := Tryd.isAgg81
  z24 := Tryd.sizeOf81
  v24 := Tryd.zeroValue81
  i24 := by kernel_rfl
  t34 := Tryd.underlying114
  a34 := Tryd.isAgg114
  z34 := Tryd.sizeOf114
  v34 := Tryd.zeroValue114
  i34 := by kernel_rfl
  c34 := by kernel_rfl
  t36 := Tryd.underlying87
  a36 := Tryd.isAgg87
  z36 := Tryd.sizeOf87
  v36 := Tryd.zeroValue87
  i36 := by kernel_rfl
  t37 := Tryd.underlying53
  a37 := Tryd.isAgg53
  z37 := Tryd.sizeOf53
  v37 := Tryd.zeroValue53
  i37 := by kernel_rfl
  t39 := Tryd.underlying116
  a39 := Tryd.isAgg116
  z39 := Tryd.sizeOf116
  v39 := Tryd.zeroValue116
  i39 := by kernel_rfl
  t44 := Tryd.underlying123
  a44 := Tryd.isAgg123
  z44 := Tryd.sizeOf123
  v44 := Tryd.zeroValue123
  i44 := by kernel_rfl
  t47 := Tryd.underlying92
  a47 := Tryd.isAgg92
  z47 := Tryd.sizeOf92
  v47 := Tryd.zeroValue92
  i47 := by kernel_rfl
  t48 := Tryd.underlying133
  a48 := Tryd.isAgg133
  z48 := Tryd.sizeOf133
  v48 := Tryd.zeroValue133
  i48 := by kernel_rfl
  t50 := Tryd.underlying135
  a50 := Tryd.isAgg135
  z50 := Tryd.sizeOf135
  v50 := Tryd.zeroValue135
  i50 := by kernel_rfl
  t52 := Tryd.underlying93
  a52 := Tryd.isAgg93
  z52 := Tryd.sizeOf93
  v52 := Tryd.zeroValue93
  i52 := by kernel_rfl
  t55 := Tryd.underlying96
  a55 := Tryd.isAgg96
  z55 := Tryd.sizeOf96
  v55 := Tryd.zeroValue96
  i55 := by kernel_rfl
  t59 := Tryd.underlying106
  a59 := Tryd.isAgg106
  z59 := Tryd.sizeOf106
  v59 := Tryd.zeroValue106
  i59 := by kernel_rfl
  t60 := Tryd.underlying107
  a60 := Tryd.isAgg107
  z60 := Tryd.sizeOf107
  v60 := Tryd.zeroValue107
  i60 := by kernel_rfl
  t61 := Tryd.underlying108
  a61 := Tryd.isAgg108
  z61 := Tryd.sizeOf108
  t65 := Tryd.underlying125
  a65 := Tryd.isAgg125
  z65 := Tryd.sizeOf125
  v65 := Tryd.zeroValue125
  i65 := by kernel_rfl
  t66 := Tryd.underlying126
  a66 := Tryd.isAgg126
  z66 := Tryd.sizeOf126
  v66 := Tryd.zeroValue126
  i66 := by kernel_rfl
  t67 := Tryd.underlying69
  a67 := Tryd.isAgg69
  z67 := Tryd.sizeOf69
  v67 := Tryd.zeroValue69
  i67 := by kernel_rfl
  g0 := by kernel_rfl
  m0 := by kernel_rfl
  g1 := by kernel_rfl
  m1 := by kernel_rfl
  g2 := by kernel_rfl
  m2 := by kernel_rfl
  g3 := by kernel_rfl
  m3 := by kernel_rfl
  g4 := by kernel_rfl
  m4 := by kernel_rfl
theorem caTe : CaT Tryd.prog 71 := CaT.of Tryd.func71 (by kernel_rfl) (by kernel_rfl)
theorem caIpu : CaT Tryd.prog 70 := CaT.of Tryd.func70 (by kernel_rfl) (by kernel_rfl)
def IsIf (v : Value) : Prop := ∃ t p, v = .iface t p
theorem toErr_c (w : World) (hg : Ge w) (fn s : List UInt8) (x y : Int) (hs : s.length ≤ 1000000) :
    Calls Tryd.prog 71 [.string (bs fn), .string (bs s), .int .i64 x, .int .i64 y, .iface 114 (.int .i64 2)].toArray w (RetA (fun v _ => IsIf v) w) := by
  obtain ⟨⟨t, p, hm⟩, _⟩ := hg
  refine (AnyPu.strconv_toError_syntax pu17 (bs fn) (bs s) x y _ w (by rw [bs_size]; omega) hm (.inr ⟨t, p, rfl⟩)).mono ?_
  rintro e w' ⟨N, rfl, _, _, hb⟩
  exact ⟨_, rfl, Ext.of_below hb, _, _, rfl⟩
def IsPu2 (a b : UInt8) (v : Value) : Prop :=
  (∃ y z : Nat, y < 16 ∧ z < 16 ∧ (∀ p, hexV a = some p → p = y) ∧ (∀ p, hexV b = some p → p = z) ∧ v = .tuple #[.int .u64 ((16 * y + z : Nat) : Int), .nilIface]) ∨
  ((hexV a = none ∨ hexV b = none) ∧ IsErrU v)
theorem pu16_c (w : World) (hg : Ge w) (a b : UInt8) : Calls Tryd.prog 56 [.string (bs [a, b]), .int .i64 16, .int .i64 8].toArray w (RetA (fun v _ => IsPu2 a b v) w) := by
  refine calls (n := 26) Tryd.func56 rfl Tryd.ntmps56 rfl ?_
  refine CW.sub (H' := SH w [] []) ?_ (Sub.refl _) (fun x hx => SH.start' _ _ hx)
  refine CW.seq (CW.region ?_)
  refine RW.assign rfl rfl ?_
  refine RW.assign rfl rfl ?_
  refine RW.nil (EX.seq (CW.seq ?_))
  -- mq: region
  refine CW.region ?_
  refine RW.move rfl rfl ?_
  refine RW.move rfl rfl ?_
  refine RW.move rfl rfl ?_
  -- mq: op 3: ('Op.call', ('Call.mk', ('Callee.value', ('Operand.func', '70')), ('arr', ('Operand.tmp', '11'), ('Operand.tmp', '12'), ('Operand.tmp', '13')), ('arr', '9', '3', '3'))) -> slot 14 ("number.go:105")
  refine RW.callA (R := fun _ v _ => IsPu a b v) rfl caIpu rfl (fun w' _ => inPu_c w' a b) (fun w1 w2 v hw1 he12 hw2 hlt hv => ?_)
  have hx12 : Ext [] w w2 := hw1.ext.trans0 he12
  rcases hv with ⟨y, z, hy, hz, hpa, hpb, rfl⟩ | ⟨hno, rfl⟩
  · skip
    refine RW.move rfl rfl ?_
    refine RW.extract rfl rfl rfl ?_
    refine RW.extract rfl rfl rfl ?_
    refine RW.assign rfl rfl ?_
    refine RW.assign rfl rfl ?_
    refine RW.nil (EX.seq (CW.seq (CW.seq ?_)))
    -- mq: region
    refine CW.region ?_
    refine RW.move rfl rfl ?_
    refine RW.neqNilAt (by kernel_rfl) rfl rfl ?_
    refine RW.nil (EX.seq ?_)
    -- mq: cond
    refine CW.condF rfl (rfl) ?_
    refine CW.skip (EX.seq (CW.seq (CW.region ?_)))
    refine RW.move rfl rfl ?_
    refine RW.assign rfl rfl ?_
    refine RW.assign rfl rfl ?_
    refine RW.nil (EX.seq (CW.ret ?_))
    refine EX.fin2 Tryd.results56 rfl rfl (fun wz hw => ?_)
    -- mq: done
    exact ⟨_, rfl, hx12.trans0 hw.ext, .inl ⟨y, z, hy, hz, hpa, hpb, rfl⟩⟩
  · skip
    refine RW.move rfl rfl ?_
    refine RW.extract rfl rfl rfl ?_
    refine RW.extract rfl rfl rfl ?_
    refine RW.assign rfl rfl ?_
    refine RW.assign rfl rfl ?_
    refine RW.nil (EX.seq (CW.seq (CW.seq ?_)))
    -- mq: region
    refine CW.region ?_
    refine RW.move rfl rfl ?_
    refine RW.neqErr (by kernel_rfl) rfl rfl ?_
    refine RW.nil (EX.seq ?_)
    -- mq: cond
    refine CW.condT rfl (rfl) ?_
    refine CW.seq (CW.region ?_)
    refine RW.move rfl rfl ?_
    refine RW.move rfl rfl ?_
    refine RW.move rfl rfl ?_
    refine RW.move rfl rfl ?_
    refine RW.move rfl rfl ?_
    -- mq: op 5: ('Op.call', ('Call.mk', ('Callee.value', ('Operand.func', '71')), ('arr', ('Operand.const', ('Value.string', ('ByteArray.mk', ('arr', '80', '97', '114', '115', '101', '85', '105', '110', '116')))), ('Operand.tmp', '20'), ('Operand.tmp', '21'), ('Operand.tmp', '22'), ('Operand.tmp', '23')), ('arr', '9', '9', '3', '3', '81'))) -> slot 24 ("number.go:107")
    refine RW.callA (R := fun _ v _ => IsIf v) rfl caTe rfl (fun w' hw' => toErr_c w' (hg.ext (hx12.trans0 hw'.ext)) [80, 97, 114, 115, 101, 85, 105, 110, 116] [a, b] 16 8 (by show 2 ≤ 1000000; decide)) (fun w3 w4 v hw3 he34 hw4 hlt4 hv => ?_)
    obtain ⟨t, p, rfl⟩ := hv
    have hx34 : Ext [] w w4 := (hx12.trans0 hw3.ext).trans0 he34
    refine RW.assign rfl rfl ?_
    refine RW.assign rfl rfl ?_
    refine RW.nil (EX.seq (CW.ret (EX.seqR ?_)))
    refine EX.fin2 Tryd.results56 rfl rfl (fun wz hw => ?_)
    -- mq: done
    exact ⟨_, rfl, hx34.trans0 hw.ext, .inr ⟨hno, _, _, _, rfl⟩⟩
def PhR (x : List UInt8) (bad : Bool) (i : Int × Bool) : Prop := (∀ k : Nat, k < 5 → phaseW k = x → i = ((k : Int), bad)) ∧ ((∀ k : Nat, k < 5 → phaseW k ≠ x) → i.2 = true)
theorem phaseR_c (w : World) (g : Nat) (s : WS) (bad : Bool) (F : Nat → Prop) (x : List UInt8) (L : List (List UInt8)) (hr : RdW w F s (x :: L)) (hF : ¬ F g) (h : (rdr g s bad).pred w) :
    Calls Tryd.prog 36 [.pointer (some ⟨g, 0, none⟩)].toArray w (RetU (fun i : Int × Bool => .int .i64 i.1) (rdr g s bad) (fun i => rdr g s.adv i.2) (PhR x bad) w) := by
  refine calls (n := 27) Tryd.func36 rfl Tryd.ntmps36 rfl ?_
  refine CW.sub (H' := SH w (rdr g s bad).foot [rdr g s bad]) ?_ (Sub.refl _) (fun x hx => SH.startOf' hx h (by simp [blk]))
  refine CW.seq (CW.region ?_)
  refine RW.assign rfl rfl ?_
  refine RW.nil (EX.seq (CW.seq ?_))
  -- mq: region
  refine CW.region ?_
  refine RW.move rfl rfl ?_
  refine RW.nilChk rfl rfl ?_
  refine RW.fieldP fl68x0 rfl rfl ?_
  refine RW.callUI (fun _ => [rdr g s.adv bad]) rfl ca34 rfl (fun _ => Upd.head) (fun w' hw' => next_c w' g s bad F x L (hFext hr hF hw'.ext) hF (hw'.has Has.head)) (fun _ _ => ?_)
  refine RW.assign rfl rfl ?_
  refine RW.nil (EX.seq (CW.seq (CW.seq (CW.region ?_))))
  refine RW.move rfl rfl ?_
  refine RW.nil (EX.seq (CW.block ?_))
  -- mq: loop
  refine CW.loop (ι := Nat) (fun k => [(0, .pointer (some ⟨g, 0, none⟩)), (3, .string (bs x)), (11, .int .i64 (k : Int))]) (fun _ => SH w (rdr g s bad).foot [rdr g s.adv bad]) (fun k => k ≤ 5 ∧ ∀ j : Nat, j < k → phaseW j ≠ x) (fun k => 5 - k) ?_ ?_
  · exact fun w' hw' => ⟨0, ⟨Nat.zero_le _, fun j hj => absurd hj (Nat.not_lt_zero _)⟩, (by repeat (first | exact Sub.nil | refine Sub.cons (by rfl) ?_)), hw'⟩
  · rintro k ⟨hk, hno⟩
    refine CW.seq (CW.region ?_)
    refine RW.lss rfl rfl rfl ?_
    refine RW.nil (EX.seq (CW.seq ?_))
    -- mq: cond
    first | refine CW.condD rfl (fun hlt => ?_) (fun hlt => ?_) | refine CW.cond rfl (fun hlt => ?_) (fun hlt => ?_)
    · skip
      refine CW.skip (EX.seq (CW.seq (CW.block (CW.seq (CW.region ?_)))))
      refine RW.move rfl rfl ?_
      refine RW.assign rfl rfl ?_
      refine RW.nil (EX.seq (CW.seq ?_))
      -- mq: region
      refine CW.region ?_
      refine RW.move rfl rfl ?_
      refine RW.call rfl ca11 rfl (fun w' _ => phase_c w' (k : Int)) ?_
      refine RW.move rfl rfl ?_
      refine RW.extract rfl rfl rfl ?_
      refine RW.extract rfl rfl rfl ?_
      refine RW.assign rfl rfl ?_
      refine RW.assign rfl rfl ?_
      refine RW.nil (EX.seq (CW.seq (CW.region ?_)))
      refine RW.move rfl rfl ?_
      refine RW.move rfl rfl ?_
      refine RW.eqlS rfl rfl rfl ?_
      refine RW.nil (EX.seq ?_)
      -- mq: cond
      first | refine CW.condD rfl (fun heq => ?_) (fun heq => ?_) | refine CW.cond rfl (fun heq => ?_) (fun heq => ?_)
      · skip
        refine CW.seq (CW.region ?_)
        refine RW.move rfl rfl ?_
        refine RW.assign rfl rfl ?_
        refine RW.nil (EX.seq (CW.ret (EX.bkR (EX.seqR (EX.lpR (EX.bkR (EX.seqR ?_)))))))
        refine EX.fin1 Tryd.results36 rfl (fun wz hw => ?_)
        -- mq: done
        refine RetU.of ((k : Int), bad) ⟨fun m hm he => ?_, fun h => absurd heq (h k (by omega))⟩ hw
        have : (m : Int) = (k : Int) := phaseW_inj (by omega) (by omega) (by rw [he, heq])
        rw [this]
      · skip
        refine CW.skip (EX.bkN (EX.seq (CW.region ?_)))
        refine RW.add rfl rfl rfl (wrap64 (by omega) (by omega)) ?_
        refine RW.move rfl rfl ?_
        refine RW.nil ?_
        -- mq: loopend
        refine EX.lpN (k + 1) ⟨by omega, fun j hj => ?_⟩ (by omega) (by repeat (first | exact Sub.nil | refine Sub.cons (by rfl) ?_)) (fun w' hw' => hw')
        rcases Nat.lt_succ_iff_lt_or_eq.1 hj with h | rfl
        · exact hno j h
        · exact heq
    · skip
      obtain rfl : k = 5 := by omega
      refine CW.exit (EX.seqE (EX.lpE (EX.bkE (EX.seq (CW.seq (CW.region ?_))))))
      refine RW.move rfl rfl ?_
      refine RW.nilChk rfl rfl ?_
      refine RW.fieldB fl68x1 rfl rfl ?_
      refine RW.store1 sc4 rfl rfl (by first | exact Upd.head | exact Upd.tail Upd.head | exact Upd.tail (Upd.tail Upd.head) | exact Upd.tail (Upd.tail (Upd.tail Upd.head)) | exact Upd.tail (Upd.tail (Upd.tail (Upd.tail Upd.head))) | exact Upd.tail (Upd.tail (Upd.tail (Upd.tail (Upd.tail Upd.head)))) | exact Upd.tail (Upd.tail (Upd.tail (Upd.tail (Upd.tail (Upd.tail Upd.head)))))) rfl (by first | exact Nat.le_of_ble_eq_true rfl | simp) ?_
      refine RW.nil (EX.seq (CW.seq (CW.region ?_)))
      refine RW.assign rfl rfl ?_
      refine RW.nil (EX.seq (CW.ret ?_))
      refine EX.fin1 Tryd.results36 rfl (fun wz hw => ?_)
      -- mq: done
      exact RetU.of (0, true) ⟨fun m hm he => absurd he (hno m hm), fun _ => rfl⟩ hw
end Go.Proofs.YtnkdabjahmjdoaaDoor.Mq
