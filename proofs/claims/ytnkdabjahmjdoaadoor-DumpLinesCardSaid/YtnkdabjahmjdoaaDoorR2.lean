/- dump: the reader of words: either, phase, id -/
import Derived.Test.YtnkdabjahmjdoaaDoorR1
import Derived.Shelf.Pu.ParseUintPublic10
namespace Go.Proofs.YtnkdabjahmjdoaaDoor.Mq
open Go Go.RowKit Go.Proofs

def pu14_ren : Shelf.Ren := ⟨fun | 14 => 56 | 16 => 70 | 17 => 71 | 19 => 86 | 20 => 87 | 21 => 88 | 22 => 89 | 23 => 90 | 24 => 91 | 25 => 101 | 26 => 102 | 27 => 24 | 28 => 52 | 29 => 65 | 30 => 61 | 31 => 62 | 32 => 63 | 33 => 64 | 34 => 76 | 35 => 77 | 36 => 78 | 37 => 79 | 38 => 80 | 39 => 94 | 40 => 95 | n => n, fun | 0 => 0 | 2 => 2 | 3 => 3 | 4 => 4 | 5 => 5 | 9 => 9 | 20 => 20 | 21 => 21 | 22 => 22 | 24 => 81 | 25 => 90 | 34 => 114 | 36 => 87 | 37 => 53 | 39 => 116 | 44 => 123 | 47 => 92 | 48 => 133 | 50 => 135 | 52 => 93 | 55 => 96 | 59 => 106 | 60 => 107 | 61 => 108 | 65 => 125 | 66 => 126 | 67 => 69 | n => n, fun | 0 => 2 | 1 => 3 | 2 => 0 | 3 => 4 | 4 => 5 | n => n⟩
theorem pu14 : LaysPu.n14 Tryd.prog pu14_ren where
  mixed := by kernel_rfl
  f14 := Tryd.func56.trans (congrArg some (by kernel_rfl))
  f16 := Tryd.func70.trans (congrArg some (by kernel_rfl))
  f17 := Tryd.func71.trans (congrArg some (by kernel_rfl))
  f19 := Tryd.func86.trans (congrArg some (by kernel_rfl))
  f20 := Tryd.func87.trans (congrArg some (by kernel_rfl))
  f21 := Tryd.func88.trans (congrArg some (by kernel_rfl))
  f22 := Tryd.func89.trans (congrArg some (by kernel_rfl))
  f23 := Tryd.func90.trans (congrArg some (by kernel_rfl))
  f24 := Tryd.func91.trans (congrArg some (by kernel_rfl))
  f25 := Tryd.func101.trans (congrArg some (by kernel_rfl))
  f26 := Tryd.func102.trans (congrArg some (by kernel_rfl))
  f27 := Tryd.func24.trans (congrArg some (by kernel_rfl))
  f28 := Tryd.func52.trans (congrArg some (by kernel_rfl))
  f29 := Tryd.func65.trans (congrArg some (by kernel_rfl))
  f30 := Tryd.func61.trans (congrArg some (by kernel_rfl))
  f31 := Tryd.func62.trans (congrArg some (by kernel_rfl))
  f32 := Tryd.func63.trans (congrArg some (by kernel_rfl))
  f33 := Tryd.func64.trans (congrArg some (by kernel_rfl))
  f34 := Tryd.func76.trans (congrArg some (by kernel_rfl))
  f35 := Tryd.func77.trans (congrArg some (by kernel_rfl))
  f36 := Tryd.func78.trans (congrArg some (by kernel_rfl))
  f37 := Tryd.func79.trans (congrArg some (by kernel_rfl))
  f38 := Tryd.func80.trans (congrArg some (by kernel_rfl))
  f39 := Tryd.func94.trans (congrArg some (by kernel_rfl))
  f40 := Tryd.func95.trans (congrArg some (by kernel_rfl))
  t0 := Tryd.underlying0
  a0 := Tryd.isAgg0
  z0 := Tryd.sizeOf0
  v0 := Tryd.zeroValue0
  i0 := by kernel_rfl
  t2 := Tryd.underlying2
  a2 := Tryd.isAgg2
  z2 := Tryd.sizeOf2
  v2 := Tryd.zeroValue2
  i2 := by kernel_rfl
  t3 := Tryd.underlying3
  a3 := Tryd.isAgg3
  z3 := Tryd.sizeOf3
  v3 := Tryd.zeroValue3
  i3 := by kernel_rfl
  t4 := Tryd.underlying4
  a4 := Tryd.isAgg4
  z4 := Tryd.sizeOf4
  v4 := Tryd.zeroValue4
  i4 := by kernel_rfl
  t5 := Tryd.underlying5
  a5 := Tryd.isAgg5
  z5 := Tryd.sizeOf5
  v5 := Tryd.zeroValue5
  i5 := by kernel_rfl
  t9 := Tryd.underlying9
  a9 := Tryd.isAgg9
  z9 := Tryd.sizeOf9
  v9 := Tryd.zeroValue9
  i9 := by kernel_rfl
  t20 := Tryd.underlying20
  a20 := Tryd.isAgg20
  z20 := Tryd.sizeOf20
  v20 := Tryd.zeroValue20
  i20 := by kernel_rfl
  t21 := Tryd.underlying21
  a21 := Tryd.isAgg21
  z21 := Tryd.sizeOf21
  v21 := Tryd.zeroValue21
  i21 := by kernel_rfl
  t22 := Tryd.underlying22
  a22 := Tryd.isAgg22
  z22 := Tryd.sizeOf22
  v22 := Tryd.zeroValue22
  i22 := by kernel_rfl
  t24 := Tryd.underlying81
  a24 := Tryd.isAgg81
  z24 := Tryd.sizeOf81
  v24 := Tryd.zeroValue81
  i24 := by kernel_rfl
  t25 := Tryd.underlying90
  a25 := Tryd.isAgg90
  z25 := Tryd.sizeOf90
  v25 := Tryd.zeroValue90
  i25 := by kernel_rfl
  t34 := Tryd.underlying114
  a34 := Tryd.isAgg114
  z34 := Tryd.sizeOf114
  v34 := Tryd.zeroValue114
  i34 := by kernel_rfl
  c34 := by kernel_rfl
  t36 := Tryd.underlying87
  a36 := Tryd.isAgg87
  z36 := Tryd.sizeOf87
  v36 := Tryd.zeroValue87
  i36 := by kernel_rfl
  t37 := Tryd.underlying53
  a37 := Tryd.isAgg53
  z37 := Tryd.sizeOf53
  v37 := Tryd.zeroValue53
  i37 := by kernel_rfl
  t39 := Tryd.underlying116
  a39 := Tryd.isAgg116
  z39 := Tryd.sizeOf116
  v39 := Tryd.zeroValue116
  i39 := by kernel_rfl
  t44 := Tryd.underlying123
  a44 := Tryd.isAgg123
  z44 := Tryd.sizeOf123
  v44 := Tryd.zeroValue123
  i44 := by kernel_rfl
  t47 := Tryd.underlying92
  a47 := Tryd.isAgg92
  z47 := Tryd.sizeOf92
  v47 := Tryd.zeroValue92
  i47 := by kernel_rfl
  t48 := Tryd.underlying133
  a48 := Tryd.isAgg133
  z48 := Tryd.sizeOf133
  v48 := Tryd.zeroValue133
  i48 := by kernel_rfl
  t50 := Tryd.underlying135
  a50 := Tryd.isAgg135
  z50 := Tryd.sizeOf135
  v50 := Tryd.zeroValue135
  i50 := by kernel_rfl
  t52 := Tryd.underlying93
  a52 := Tryd.isAgg93
  z52 := Tryd.sizeOf93
  v52 := Tryd.zeroValue93
  i52 := by kernel_rfl
  t55 := Tryd.underlying96
  a55 := Tryd.isAgg96
  z55 := Tryd.sizeOf96
  v55 := Tryd.zeroValue96
  i55 := by kernel_rfl
  t59 := Tryd.underlying106
  a59 := Tryd.isAgg106
  z59 := Tryd.sizeOf106
  v59 := Tryd.zeroValue106
  i59 := by kernel_rfl
  t60 := Tryd.underlying107
  a60 := Tryd.isAgg107
  z60 := Tryd.sizeOf107
  v60 := Tryd.zeroValue107
  i60 := by kernel_rfl
  t61 := Tryd.underlying108
  a61 := Tryd.isAgg108
  z61 := Tryd.sizeOf108
  t65 := Tryd.underlying125
  a65 := Tryd.isAgg125
  z65 := Tryd.sizeOf125
  v65 := Tryd.zeroValue125
  i65 := by kernel_rfl
  t66 := Tryd.underlying126
  a66 := Tryd.isAgg126
  z66 := Tryd.sizeOf126
  v66 := Tryd.zeroValue126
  i66 := by kernel_rfl
  t67 := Tryd.underlying69
  a67 := Tryd.isAgg69
  z67 := Tryd.sizeOf69
  v67 := Tryd.zeroValue69
  i67 := by kernel_rfl
  g0 := by kernel_rfl
  m0 := by kernel_rfl
  g1 := by kernel_rfl
  m1 := by kernel_rfl
  g2 := by kernel_rfl
  m2 := by kernel_rfl
  g3 := by kernel_rfl
  m3 := by kernel_rfl
  g4 := by kernel_rfl
  m4 := by kernel_rfl
theorem caPu : CaT Tryd.prog 56 := CaT.of Tryd.func56 (by kernel_rfl) (by kernel_rfl)
theorem puOk_c (w : World) (s : List UInt8) (u : Nat) (hs : s.length ≤ 1000000) (h : Lib.parseUintB 64 s = .ok u) :
    Calls Tryd.prog 56 [.string (bs s), .int .i64 10, .int .i64 64].toArray w (fun e w' => e = .returned (.tuple #[.int .u64 (u : Int), .nilIface]) ∧ Ext [] w w') := by
  refine (Any.strconv_ParseUint_10_at64_ok pu14 (bs s) (by rw [bs_size]; omega) u h w).mono ?_
  rintro e w' ⟨rfl, rfl | rfl⟩
  · exact ⟨rfl, Ext.refl _ _⟩
  · exact ⟨rfl, Ext.of_below (Lib.bytesWorld_below w _ _)⟩
def IsErrU (v : Value) : Prop := ∃ (x : Nat) (t : TypeId) (p : Value), v = .tuple #[.int .u64 (x : Int), .iface t p]
theorem puNo_c (w : World) (hg : Ge w) (s : List UInt8) (hs : s.length ≤ 1000000) (h : ∀ u, Lib.parseUintB 64 s ≠ .ok u) :
    Calls Tryd.prog 56 [.string (bs s), .int .i64 10, .int .i64 64].toArray w (RetA (fun v _ => IsErrU v) w) := by
  obtain ⟨⟨t, p, hm⟩, ⟨t2, p2, hm2⟩⟩ := hg
  cases hc : Lib.parseUintB 64 s with
  | ok v => exact absurd hc (h v)
  | «syntax» =>
    refine (Any.strconv_ParseUint_10_at64_syntax pu14 (bs s) (by rw [bs_size]; omega) hc _ w hm (.inr ⟨t, p, rfl⟩)).mono ?_
    rintro e w' ⟨N, rfl, _, _, hb⟩
    exact ⟨_, rfl, Ext.of_below hb, 0, _, _, rfl⟩
  | range =>
    refine (Any.strconv_ParseUint_10_at64_range pu14 (bs s) (by rw [bs_size]; omega) hc _ w hm2 (.inr ⟨t2, p2, rfl⟩)).mono ?_
    rintro e w' ⟨N, rfl, _, _, hb⟩
    exact ⟨_, rfl, Ext.of_below hb, 18446744073709551615, _, _, rfl⟩
theorem idF_ok {s : List UInt8} {u : Nat} (h : Lib.parseUintB 64 s = .ok u) : idF s = if Lib.decDigits u = s then some u else none := by
  have hu := Lib.parseUintB_le h
  split
  · rename_i he
    exact idF_iff.2 ⟨he, by omega⟩
  · rename_i he
    cases hi : idF s with
    | none => rfl
    | some n =>
      obtain ⟨h1, h2⟩ := idF_iff.1 hi
      have := parseU_dec h2
      rw [h1, h] at this
      cases this
      exact absurd h1 he
theorem idF_no {s : List UInt8} (h : ∀ u, Lib.parseUintB 64 s ≠ .ok u) : idF s = none := by
  cases hi : idF s with
  | none => rfl
  | some n =>
    obtain ⟨h1, h2⟩ := idF_iff.1 hi
    exact absurd (h1 ▸ parseU_dec h2) (h n)
def IdR (x : List UInt8) (bad : Bool) (i : Int × Bool) : Prop := (idF x = none → i.2 = true) ∧ (∀ n : Nat, idF x = some n → i = ((n : Int), bad)) ∧ 0 ≤ i.1
theorem idR_c (w : World) (g : Nat) (hG : GR w g) (s : WS) (bad : Bool) (F : Nat → Prop) (x : List UInt8) (L : List (List UInt8)) (hr : RdW w F s (x :: L)) (hF : ¬ F g) (hxl : x.length ≤ 1000000) (h : (rdr g s bad).pred w) :
    Calls Tryd.prog 35 [.pointer (some ⟨g, 0, none⟩)].toArray w (RetU (fun i : Int × Bool => .int .u64 i.1) (rdr g s bad) (fun i => rdr g s.adv i.2) (IdR x bad) w) := by
  refine calls (n := 33) Tryd.func35 rfl Tryd.ntmps35 rfl ?_
  refine CW.sub (H' := SH w (rdr g s bad).foot [rdr g s bad]) ?_ (Sub.refl _) (fun x hx => SH.startOf' hx h (by simp [blk]))
  refine CW.seq (CW.region ?_)
  refine RW.assign rfl rfl ?_
  refine RW.nil (EX.seq (CW.seq ?_))
  -- mq: region
  refine CW.region ?_
  refine RW.move rfl rfl ?_
  refine RW.nilChk rfl rfl ?_
  refine RW.fieldP fl68x0 rfl rfl ?_
  refine RW.callUI (fun _ => [rdr g s.adv bad]) rfl ca34 rfl (fun _ => Upd.head) (fun w' hw' => next_c w' g s bad F x L (hFext hr hF hw'.ext) hF (hw'.has Has.head)) (fun _ _ => ?_)
  refine RW.assign rfl rfl ?_
  refine RW.nil (EX.seq (CW.seq ?_))
  -- mq: region
  by_cases hx : ∃ v, Lib.parseUintB 64 x = .ok v
  · skip
    obtain ⟨v, hok⟩ := hx
    have hn := Lib.parseUintB_le hok
    refine CW.region ?_
    refine RW.move rfl rfl ?_
    refine RW.call rfl caPu rfl (fun w' _ => puOk_c w' x v hxl hok) ?_
    refine RW.move rfl rfl ?_
    refine RW.extract rfl rfl rfl ?_
    refine RW.extract rfl rfl rfl ?_
    refine RW.assign rfl rfl ?_
    refine RW.assign rfl rfl ?_
    refine RW.nil (EX.seq (CW.seq ?_))
    -- mq: region
    cases bad with
    | true =>
      refine CW.region ?_
      refine RW.move rfl rfl ?_
      refine RW.move rfl rfl ?_
      refine RW.nilChk rfl rfl ?_
      refine RW.fieldB fl68x1 rfl rfl ?_
      refine RW.loadB1 sc4 rfl rfl (by first | exact Has.head | exact Has.tail Has.head | exact Has.tail (Has.tail Has.head) | exact Has.tail (Has.tail (Has.tail Has.head)) | exact Has.tail (Has.tail (Has.tail (Has.tail Has.head))) | exact Has.tail (Has.tail (Has.tail (Has.tail (Has.tail Has.head)))) | exact Has.tail (Has.tail (Has.tail (Has.tail (Has.tail (Has.tail Has.head)))))) rfl ?_
      -- mq: at
      refine RW.move rfl rfl ?_
      refine RW.guardF rfl rfl rfl rfl ?_
      refine RW.guardF rfl rfl rfl rfl ?_
      refine RW.pickB rfl rfl rfl rfl ?_
      refine RW.move rfl rfl ?_
      refine RW.guardF rfl rfl rfl rfl ?_
      refine RW.guardF rfl rfl rfl rfl ?_
      refine RW.guardF rfl rfl rfl rfl ?_
      refine RW.guardF rfl rfl rfl rfl ?_
      refine RW.pickB rfl rfl rfl rfl ?_
      refine RW.nilChk rfl rfl ?_
      refine RW.fieldB fl68x1 rfl rfl ?_
      refine RW.store1 sc4 rfl rfl (by first | exact Upd.head | exact Upd.tail Upd.head | exact Upd.tail (Upd.tail Upd.head) | exact Upd.tail (Upd.tail (Upd.tail Upd.head)) | exact Upd.tail (Upd.tail (Upd.tail (Upd.tail Upd.head))) | exact Upd.tail (Upd.tail (Upd.tail (Upd.tail (Upd.tail Upd.head)))) | exact Upd.tail (Upd.tail (Upd.tail (Upd.tail (Upd.tail (Upd.tail Upd.head)))))) rfl (by first | exact Nat.le_of_ble_eq_true rfl | simp) ?_
      refine RW.nil (EX.seq (CW.seq (CW.region ?_)))
      refine RW.move rfl rfl ?_
      refine RW.assign rfl rfl ?_
      refine RW.nil (EX.seq (CW.ret ?_))
      refine EX.fin1 Tryd.results35 rfl (fun wz hw => ?_)
      -- mq: done
      refine RetU.of ((v : Int), true) ⟨fun _ => rfl, fun m hm => ?_, by dsimp only; omega⟩ hw
      rw [idF_ok hok] at hm
      split at hm
      · cases hm; rfl
      · cases hm
    | false =>
      refine CW.region ?_
      refine RW.move rfl rfl ?_
      refine RW.move rfl rfl ?_
      refine RW.nilChk rfl rfl ?_
      refine RW.fieldB fl68x1 rfl rfl ?_
      refine RW.loadB1 sc4 rfl rfl (by first | exact Has.head | exact Has.tail Has.head | exact Has.tail (Has.tail Has.head) | exact Has.tail (Has.tail (Has.tail Has.head)) | exact Has.tail (Has.tail (Has.tail (Has.tail Has.head))) | exact Has.tail (Has.tail (Has.tail (Has.tail (Has.tail Has.head)))) | exact Has.tail (Has.tail (Has.tail (Has.tail (Has.tail (Has.tail Has.head)))))) rfl ?_
      refine RW.move rfl rfl ?_
      refine RW.guardT rfl rfl rfl ?_
      refine RW.move rfl rfl ?_
      refine RW.guardT rfl rfl rfl ?_
      refine RW.neqNilAt (by kernel_rfl) rfl rfl ?_
      refine RW.pickC rfl rfl rfl rfl ?_
      refine RW.move rfl rfl ?_
      refine RW.guardT rfl rfl rfl ?_
      refine RW.move rfl rfl ?_
      refine RW.guardT rfl rfl rfl ?_
      refine RW.call rfl caFU rfl (fun w' hw' => formatUint_c w' (hG.gl hw'.ext).1 v (by omega)) ?_
      refine RW.guardT rfl rfl rfl ?_
      refine RW.move rfl rfl ?_
      refine RW.guardT rfl rfl rfl ?_
      refine RW.neqS rfl rfl rfl ?_
      refine RW.pickC rfl rfl rfl rfl ?_
      refine RW.nilChk rfl rfl ?_
      refine RW.fieldB fl68x1 rfl rfl ?_
      refine RW.store1 sc4 rfl rfl (by first | exact Upd.head | exact Upd.tail Upd.head | exact Upd.tail (Upd.tail Upd.head) | exact Upd.tail (Upd.tail (Upd.tail Upd.head)) | exact Upd.tail (Upd.tail (Upd.tail (Upd.tail Upd.head))) | exact Upd.tail (Upd.tail (Upd.tail (Upd.tail (Upd.tail Upd.head)))) | exact Upd.tail (Upd.tail (Upd.tail (Upd.tail (Upd.tail (Upd.tail Upd.head)))))) rfl (by first | exact Nat.le_of_ble_eq_true rfl | simp) ?_
      refine RW.nil (EX.seq (CW.seq (CW.region ?_)))
      refine RW.move rfl rfl ?_
      refine RW.assign rfl rfl ?_
      refine RW.nil (EX.seq (CW.ret ?_))
      refine EX.fin1 Tryd.results35 rfl (fun wz hw => ?_)
      -- mq: done
      refine RetU.of ((v : Int), decide (Lib.decDigits v ≠ x)) ⟨fun hnn => ?_, fun m hm => ?_, by dsimp only; omega⟩ hw
      · rw [idF_ok hok] at hnn
        split at hnn
        · cases hnn
        · rename_i he; exact decide_eq_true he
      · rw [idF_ok hok] at hm
        split at hm
        · rename_i he; cases hm; rw [decide_eq_false (fun e => e he)]
        · cases hm
  · skip
    have hno := idF_no (fun v hv => hx ⟨v, hv⟩)
    refine CW.region ?_
    refine RW.move rfl rfl ?_
    -- mq: at
    refine RW.callA (R := fun _ v _ => IsErrU v) rfl caPu rfl (fun w' hw' => puNo_c w' (hG.gl hw'.ext).2 x hxl (fun v hv => hx ⟨v, hv⟩)) (fun w1 w2 v hw1 he12 hw2 hlt hv => ?_)
    obtain ⟨y, t, p, rfl⟩ := hv
    have hx12 := hw1.ext.trans0 he12
    have hcv := hw1.cov
    refine RW.move rfl rfl ?_
    refine RW.extract rfl rfl rfl ?_
    refine RW.extract rfl rfl rfl ?_
    refine RW.assign rfl rfl ?_
    refine RW.assign rfl rfl ?_
    refine RW.nil (EX.seq (CW.seq ?_))
    -- mq: region
    cases bad with
    | true =>
      refine CW.region ?_
      refine RW.move rfl rfl ?_
      refine RW.move rfl rfl ?_
      refine RW.nilChk rfl rfl ?_
      refine RW.fieldB fl68x1 rfl rfl ?_
      refine RW.loadB1 sc4 rfl rfl (by first | exact Has.head | exact Has.tail Has.head | exact Has.tail (Has.tail Has.head) | exact Has.tail (Has.tail (Has.tail Has.head)) | exact Has.tail (Has.tail (Has.tail (Has.tail Has.head))) | exact Has.tail (Has.tail (Has.tail (Has.tail (Has.tail Has.head)))) | exact Has.tail (Has.tail (Has.tail (Has.tail (Has.tail (Has.tail Has.head)))))) rfl ?_
      -- mq: at
      refine RW.move rfl rfl ?_
      refine RW.guardF rfl rfl rfl rfl ?_
      refine RW.guardF rfl rfl rfl rfl ?_
      refine RW.pickB rfl rfl rfl rfl ?_
      refine RW.move rfl rfl ?_
      refine RW.guardF rfl rfl rfl rfl ?_
      refine RW.guardF rfl rfl rfl rfl ?_
      refine RW.guardF rfl rfl rfl rfl ?_
      refine RW.guardF rfl rfl rfl rfl ?_
      refine RW.pickB rfl rfl rfl rfl ?_
      refine RW.nilChk rfl rfl ?_
      refine RW.fieldB fl68x1 rfl rfl ?_
      refine RW.store1 sc4 rfl rfl (by first | exact Upd.head | exact Upd.tail Upd.head | exact Upd.tail (Upd.tail Upd.head) | exact Upd.tail (Upd.tail (Upd.tail Upd.head)) | exact Upd.tail (Upd.tail (Upd.tail (Upd.tail Upd.head))) | exact Upd.tail (Upd.tail (Upd.tail (Upd.tail (Upd.tail Upd.head)))) | exact Upd.tail (Upd.tail (Upd.tail (Upd.tail (Upd.tail (Upd.tail Upd.head)))))) rfl (by first | exact Nat.le_of_ble_eq_true rfl | simp) ?_
      refine RW.nil (EX.seq (CW.seq (CW.region ?_)))
      refine RW.move rfl rfl ?_
      refine RW.assign rfl rfl ?_
      refine RW.nil (EX.seq (CW.ret ?_))
      refine EX.fin1 Tryd.results35 rfl (fun wz hw => ?_)
      -- mq: done
      exact RetU.of ((y : Int), true) ⟨fun _ => rfl, fun m hm => (by rw [hno] at hm; cases hm), by dsimp only; omega⟩ (hw.unbase hx12 hcv)
    | false =>
      refine CW.region ?_
      refine RW.move rfl rfl ?_
      refine RW.move rfl rfl ?_
      refine RW.nilChk rfl rfl ?_
      refine RW.fieldB fl68x1 rfl rfl ?_
      refine RW.loadB1 sc4 rfl rfl (by first | exact Has.head | exact Has.tail Has.head | exact Has.tail (Has.tail Has.head) | exact Has.tail (Has.tail (Has.tail Has.head)) | exact Has.tail (Has.tail (Has.tail (Has.tail Has.head))) | exact Has.tail (Has.tail (Has.tail (Has.tail (Has.tail Has.head)))) | exact Has.tail (Has.tail (Has.tail (Has.tail (Has.tail (Has.tail Has.head)))))) rfl ?_
      refine RW.move rfl rfl ?_
      refine RW.guardT rfl rfl rfl ?_
      refine RW.move rfl rfl ?_
      refine RW.guardT rfl rfl rfl ?_
      refine RW.neqErr (by kernel_rfl) rfl rfl ?_
      refine RW.pickC rfl rfl rfl rfl ?_
      refine RW.move rfl rfl ?_
      refine RW.guardF rfl rfl rfl rfl ?_
      refine RW.guardF rfl rfl rfl rfl ?_
      refine RW.guardF rfl rfl rfl rfl ?_
      refine RW.guardF rfl rfl rfl rfl ?_
      refine RW.pickB rfl rfl rfl rfl ?_
      refine RW.nilChk rfl rfl ?_
      refine RW.fieldB fl68x1 rfl rfl ?_
      refine RW.store1 sc4 rfl rfl (by first | exact Upd.head | exact Upd.tail Upd.head | exact Upd.tail (Upd.tail Upd.head) | exact Upd.tail (Upd.tail (Upd.tail Upd.head)) | exact Upd.tail (Upd.tail (Upd.tail (Upd.tail Upd.head))) | exact Upd.tail (Upd.tail (Upd.tail (Upd.tail (Upd.tail Upd.head)))) | exact Upd.tail (Upd.tail (Upd.tail (Upd.tail (Upd.tail (Upd.tail Upd.head)))))) rfl (by first | exact Nat.le_of_ble_eq_true rfl | simp) ?_
      refine RW.nil (EX.seq (CW.seq (CW.region ?_)))
      refine RW.move rfl rfl ?_
      refine RW.assign rfl rfl ?_
      refine RW.nil (EX.seq (CW.ret ?_))
      refine EX.fin1 Tryd.results35 rfl (fun wz hw => ?_)
      -- mq: done
      exact RetU.of ((y : Int), true) ⟨fun _ => rfl, fun m hm => (by rw [hno] at hm; cases hm), by dsimp only; omega⟩ (hw.unbase hx12 hcv)
theorem eitherR_c (w : World) (g : Nat) (s : WS) (bad : Bool) (F : Nat → Prop) (x a b : List UInt8) (L : List (List UInt8)) (hr : RdW w F s (x :: L)) (hF : ¬ F g) (h : (rdr g s bad).pred w) :
    Calls Tryd.prog 37 [.pointer (some ⟨g, 0, none⟩), .string (bs a), .string (bs b)].toArray w (RetU (fun _ : Unit => .bool (decide (x = a))) (rdr g s bad) (fun _ => rdr g s.adv (bad || (decide (x ≠ a) && decide (x ≠ b)))) (fun _ => True) w) := by
  refine calls (n := 32) Tryd.func37 rfl Tryd.ntmps37 rfl ?_
  refine CW.sub (H' := SH w (rdr g s bad).foot [rdr g s bad]) ?_ (Sub.refl _) (fun x hx => SH.startOf' hx h (by simp [blk]))
  refine CW.seq (CW.region ?_)
  refine RW.assign rfl rfl ?_
  refine RW.nil (EX.seq (CW.seq ?_))
  -- mq: region
  refine CW.region ?_
  refine RW.move rfl rfl ?_
  refine RW.nilChk rfl rfl ?_
  refine RW.fieldP fl68x0 rfl rfl ?_
  refine RW.callUI (fun _ => [rdr g s.adv bad]) rfl ca34 rfl (fun _ => Upd.head) (fun w' hw' => next_c w' g s bad F x L (hFext hr hF hw'.ext) hF (hw'.has Has.head)) (fun _ _ => ?_)
  refine RW.assign rfl rfl ?_
  refine RW.nil (EX.seq (CW.seq ?_))
  -- mq: region
  cases bad with
  | true =>
    refine CW.region ?_
    refine RW.move rfl rfl ?_
    refine RW.move rfl rfl ?_
    refine RW.nilChk rfl rfl ?_
    refine RW.fieldB fl68x1 rfl rfl ?_
    refine RW.loadB1 sc4 rfl rfl (by first | exact Has.head | exact Has.tail Has.head | exact Has.tail (Has.tail Has.head) | exact Has.tail (Has.tail (Has.tail Has.head)) | exact Has.tail (Has.tail (Has.tail (Has.tail Has.head))) | exact Has.tail (Has.tail (Has.tail (Has.tail (Has.tail Has.head)))) | exact Has.tail (Has.tail (Has.tail (Has.tail (Has.tail (Has.tail Has.head)))))) rfl ?_
    -- mq: at
    refine RW.move rfl rfl ?_
    refine RW.guardF rfl rfl rfl rfl ?_
    refine RW.guardF rfl rfl rfl rfl ?_
    refine RW.guardF rfl rfl rfl rfl ?_
    refine RW.guardF rfl rfl rfl rfl ?_
    refine RW.guardU rfl rfl rfl ?_
    refine RW.guardU rfl rfl rfl ?_
    refine RW.guardU rfl rfl rfl ?_
    refine RW.guardF rfl rfl rfl rfl ?_
    refine RW.pickB rfl rfl rfl rfl ?_
    refine RW.nilChk rfl rfl ?_
    refine RW.fieldB fl68x1 rfl rfl ?_
    refine RW.store1 sc4 rfl rfl (by first | exact Upd.head | exact Upd.tail Upd.head | exact Upd.tail (Upd.tail Upd.head) | exact Upd.tail (Upd.tail (Upd.tail Upd.head)) | exact Upd.tail (Upd.tail (Upd.tail (Upd.tail Upd.head))) | exact Upd.tail (Upd.tail (Upd.tail (Upd.tail (Upd.tail Upd.head)))) | exact Upd.tail (Upd.tail (Upd.tail (Upd.tail (Upd.tail (Upd.tail Upd.head)))))) rfl (by first | exact Nat.le_of_ble_eq_true rfl | simp) ?_
    refine RW.nil (EX.seq (CW.seq (CW.region ?_)))
    refine RW.move rfl rfl ?_
    refine RW.move rfl rfl ?_
    refine RW.eqlS rfl rfl rfl ?_
    refine RW.assign rfl rfl ?_
    refine RW.nil (EX.seq (CW.ret ?_))
    refine EX.fin1 Tryd.results37 rfl (fun wz hw => ?_)
    -- mq: done
    exact RetU.of () trivial hw
  | false =>
    refine CW.region ?_
    refine RW.move rfl rfl ?_
    refine RW.move rfl rfl ?_
    refine RW.nilChk rfl rfl ?_
    refine RW.fieldB fl68x1 rfl rfl ?_
    refine RW.loadB1 sc4 rfl rfl (by first | exact Has.head | exact Has.tail Has.head | exact Has.tail (Has.tail Has.head) | exact Has.tail (Has.tail (Has.tail Has.head)) | exact Has.tail (Has.tail (Has.tail (Has.tail Has.head))) | exact Has.tail (Has.tail (Has.tail (Has.tail (Has.tail Has.head)))) | exact Has.tail (Has.tail (Has.tail (Has.tail (Has.tail (Has.tail Has.head)))))) rfl ?_
    refine RW.move rfl rfl ?_
    refine RW.guardT rfl rfl rfl ?_
    refine RW.move rfl rfl ?_
    refine RW.guardT rfl rfl rfl ?_
    refine RW.move rfl rfl ?_
    refine RW.guardT rfl rfl rfl ?_
    refine RW.neqS rfl rfl rfl ?_
    refine RW.guardT rfl rfl rfl ?_
    refine RW.move rfl rfl ?_
    -- mq: guard slot 21
    refine RW.casesB 21 rfl (fun h1 => ?_) (fun h1 => ?_)
    · skip
      have h1p := of_decide_eq_true h1
      refine RW.guardT rfl rfl h1 ?_
      refine RW.move rfl rfl ?_
      refine RW.guardT rfl rfl h1 ?_
      refine RW.move rfl rfl ?_
      refine RW.guardT rfl rfl h1 ?_
      refine RW.neqS rfl rfl rfl ?_
      refine RW.guardT rfl rfl rfl ?_
      refine RW.pickB rfl rfl h1 rfl ?_
      refine RW.pickC rfl rfl rfl rfl ?_
      refine RW.nilChk rfl rfl ?_
      refine RW.fieldB fl68x1 rfl rfl ?_
      refine RW.store1 sc4 rfl rfl (by first | exact Upd.head | exact Upd.tail Upd.head | exact Upd.tail (Upd.tail Upd.head) | exact Upd.tail (Upd.tail (Upd.tail Upd.head)) | exact Upd.tail (Upd.tail (Upd.tail (Upd.tail Upd.head))) | exact Upd.tail (Upd.tail (Upd.tail (Upd.tail (Upd.tail Upd.head)))) | exact Upd.tail (Upd.tail (Upd.tail (Upd.tail (Upd.tail (Upd.tail Upd.head)))))) rfl (by first | exact Nat.le_of_ble_eq_true rfl | simp) ?_
      refine RW.nil (EX.seq (CW.seq (CW.region ?_)))
      refine RW.move rfl rfl ?_
      refine RW.move rfl rfl ?_
      refine RW.eqlS rfl rfl rfl ?_
      refine RW.assign rfl rfl ?_
      refine RW.nil (EX.seq (CW.ret ?_))
      refine EX.fin1 Tryd.results37 rfl (fun wz hw => ?_)
      -- mq: done
      refine RetU.of () trivial ?_
      rw [decide_eq_true h1p]
      exact hw
    · skip
      have h1p := of_decide_eq_false h1
      refine RW.guardF rfl rfl rfl h1 ?_
      refine RW.guardF rfl rfl rfl h1 ?_
      refine RW.guardF rfl rfl rfl h1 ?_
      refine RW.guardT rfl rfl rfl ?_
      refine RW.pickC rfl rfl h1 rfl ?_
      refine RW.pickC rfl rfl rfl rfl ?_
      refine RW.nilChk rfl rfl ?_
      refine RW.fieldB fl68x1 rfl rfl ?_
      refine RW.store1 sc4 rfl rfl (by first | exact Upd.head | exact Upd.tail Upd.head | exact Upd.tail (Upd.tail Upd.head) | exact Upd.tail (Upd.tail (Upd.tail Upd.head)) | exact Upd.tail (Upd.tail (Upd.tail (Upd.tail Upd.head))) | exact Upd.tail (Upd.tail (Upd.tail (Upd.tail (Upd.tail Upd.head)))) | exact Upd.tail (Upd.tail (Upd.tail (Upd.tail (Upd.tail (Upd.tail Upd.head)))))) rfl (by first | exact Nat.le_of_ble_eq_true rfl | simp) ?_
      refine RW.nil (EX.seq (CW.seq (CW.region ?_)))
      refine RW.move rfl rfl ?_
      refine RW.move rfl rfl ?_
      refine RW.eqlS rfl rfl rfl ?_
      refine RW.assign rfl rfl ?_
      refine RW.nil (EX.seq (CW.ret ?_))
      refine EX.fin1 Tryd.results37 rfl (fun wz hw => ?_)
      -- mq: done
      refine RetU.of () trivial ?_
      rw [decide_eq_false h1p]
      exact hw
end Go.Proofs.YtnkdabjahmjdoaaDoor.Mq
