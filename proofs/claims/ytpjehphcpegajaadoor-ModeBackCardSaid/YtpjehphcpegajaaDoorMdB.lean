/- walks of Parse and of ModeBack -/
import Derived.Test.YtpjehphcpegajaaDoorMdW
import Derived.Test.YtpjehphcpegajaaDoorDrawU
import Derived.Test.YtpjehphcpegajaaDoorCut
import Derived.Shelf.Strconv.Atoi
import Derived.Lib.AtoiErrMem
import Derived.WideLaws
namespace Go.Proofs.YtpjehphcpegajaaDoor.Mq
open Go Go.RowKit Go.Proofs

def lays172_ren : Shelf.Ren := ⟨fun | 129 => 49 | 171 => 27 | 172 => 26 | 205 => 41 | 243 => 31 | 244 => 29 | 245 => 30 | 246 => 38 | 247 => 33 | 279 => 34 | 280 => 35 | 281 => 36 | 282 => 37 | 283 => 42 | 284 => 43 | 285 => 44 | 286 => 45 | 287 => 39 | 316 => 40 | 317 => 48 | 318 => 50 | 319 => 51 | 320 => 52 | 321 => 46 | 322 => 47 | 337 => 53 | 338 => 54 | n => n, fun | 0 => 0 | 2 => 2 | 3 => 3 | 4 => 4 | 5 => 5 | 9 => 9 | 20 => 20 | 21 => 21 | 37 => 57 | 46 => 70 | 51 => 24 | 53 => 67 | 75 => 54 | 76 => 55 | 80 => 94 | 85 => 61 | 127 => 81 | 143 => 82 | 145 => 84 | 167 => 60 | 168 => 63 | 171 => 75 | 173 => 78 | 175 => 68 | 210 => 73 | 212 => 87 | 213 => 88 | 232 => 92 | 233 => 93 | n => n, fun | 15 => 0 | 16 => 1 | 17 => 2 | 18 => 3 | 19 => 4 | n => n⟩
theorem lays172 : Lays.n172 Tryd.prog lays172_ren where
  mixed := by kernel_rfl
  f129 := Tryd.func49.trans (congrArg some (by kernel_rfl))
  f171 := Tryd.func27.trans (congrArg some (by kernel_rfl))
  f172 := Tryd.func26.trans (congrArg some (by kernel_rfl))
  f205 := Tryd.func41.trans (congrArg some (by kernel_rfl))
  f243 := Tryd.func31.trans (congrArg some (by kernel_rfl))
  f244 := Tryd.func29.trans (congrArg some (by kernel_rfl))
  f245 := Tryd.func30.trans (congrArg some (by kernel_rfl))
  f246 := Tryd.func38.trans (congrArg some (by kernel_rfl))
  f247 := Tryd.func33.trans (congrArg some (by kernel_rfl))
  f279 := Tryd.func34.trans (congrArg some (by kernel_rfl))
  f280 := Tryd.func35.trans (congrArg some (by kernel_rfl))
  f281 := Tryd.func36.trans (congrArg some (by kernel_rfl))
  f282 := Tryd.func37.trans (congrArg some (by kernel_rfl))
  f283 := Tryd.func42.trans (congrArg some (by kernel_rfl))
  f284 := Tryd.func43.trans (congrArg some (by kernel_rfl))
  f285 := Tryd.func44.trans (congrArg some (by kernel_rfl))
  f286 := Tryd.func45.trans (congrArg some (by kernel_rfl))
  f287 := Tryd.func39.trans (congrArg some (by kernel_rfl))
  f316 := Tryd.func40.trans (congrArg some (by kernel_rfl))
  f317 := Tryd.func48.trans (congrArg some (by kernel_rfl))
  f318 := Tryd.func50.trans (congrArg some (by kernel_rfl))
  f319 := Tryd.func51.trans (congrArg some (by kernel_rfl))
  f320 := Tryd.func52.trans (congrArg some (by kernel_rfl))
  f321 := Tryd.func46.trans (congrArg some (by kernel_rfl))
  f322 := Tryd.func47.trans (congrArg some (by kernel_rfl))
  f337 := Tryd.func53.trans (congrArg some (by kernel_rfl))
  f338 := Tryd.func54.trans (congrArg some (by kernel_rfl))
  t0 := Tryd.underlying0
  a0 := Tryd.isAgg0
  z0 := Tryd.sizeOf0
  v0 := Tryd.zeroValue0
  t2 := Tryd.underlying2
  a2 := Tryd.isAgg2
  z2 := Tryd.sizeOf2
  v2 := Tryd.zeroValue2
  t3 := Tryd.underlying3
  a3 := Tryd.isAgg3
  z3 := Tryd.sizeOf3
  v3 := Tryd.zeroValue3
  t4 := Tryd.underlying4
  a4 := Tryd.isAgg4
  z4 := Tryd.sizeOf4
  v4 := Tryd.zeroValue4
  t5 := Tryd.underlying5
  a5 := Tryd.isAgg5
  z5 := Tryd.sizeOf5
  v5 := Tryd.zeroValue5
  t9 := Tryd.underlying9
  a9 := Tryd.isAgg9
  z9 := Tryd.sizeOf9
  v9 := Tryd.zeroValue9
  t20 := Tryd.underlying20
  a20 := Tryd.isAgg20
  z20 := Tryd.sizeOf20
  v20 := Tryd.zeroValue20
  t21 := Tryd.underlying21
  a21 := Tryd.isAgg21
  z21 := Tryd.sizeOf21
  v21 := Tryd.zeroValue21
  t37 := Tryd.underlying57
  a37 := Tryd.isAgg57
  z37 := Tryd.sizeOf57
  v37 := Tryd.zeroValue57
  t46 := Tryd.underlying70
  a46 := Tryd.isAgg70
  z46 := Tryd.sizeOf70
  v46 := Tryd.zeroValue70
  t51 := Tryd.underlying24
  a51 := Tryd.isAgg24
  z51 := Tryd.sizeOf24
  v51 := Tryd.zeroValue24
  t53 := Tryd.underlying67
  a53 := Tryd.isAgg67
  z53 := Tryd.sizeOf67
  v53 := Tryd.zeroValue67
  t75 := Tryd.underlying54
  a75 := Tryd.isAgg54
  z75 := Tryd.sizeOf54
  v75 := Tryd.zeroValue54
  t76 := Tryd.underlying55
  a76 := Tryd.isAgg55
  z76 := Tryd.sizeOf55
  v76 := Tryd.zeroValue55
  t85 := Tryd.underlying61
  a85 := Tryd.isAgg61
  z85 := Tryd.sizeOf61
  v85 := Tryd.zeroValue61
  t127 := Tryd.underlying81
  a127 := Tryd.isAgg81
  z127 := Tryd.sizeOf81
  v127 := Tryd.zeroValue81
  t143 := Tryd.underlying82
  a143 := Tryd.isAgg82
  z143 := Tryd.sizeOf82
  v143 := Tryd.zeroValue82
  t145 := Tryd.underlying84
  a145 := Tryd.isAgg84
  z145 := Tryd.sizeOf84
  v145 := Tryd.zeroValue84
  t167 := Tryd.underlying60
  a167 := Tryd.isAgg60
  z167 := Tryd.sizeOf60
  v167 := Tryd.zeroValue60
  t168 := Tryd.underlying63
  a168 := Tryd.isAgg63
  z168 := Tryd.sizeOf63
  v168 := Tryd.zeroValue63
  t171 := Tryd.underlying75
  a171 := Tryd.isAgg75
  z171 := Tryd.sizeOf75
  v171 := Tryd.zeroValue75
  t173 := Tryd.underlying78
  a173 := Tryd.isAgg78
  z173 := Tryd.sizeOf78
  v173 := Tryd.zeroValue78
  t175 := Tryd.underlying68
  a175 := Tryd.isAgg68
  z175 := Tryd.sizeOf68
  v175 := Tryd.zeroValue68
  t210 := Tryd.underlying73
  a210 := Tryd.isAgg73
  z210 := Tryd.sizeOf73
  v210 := Tryd.zeroValue73
  t212 := Tryd.underlying87
  a212 := Tryd.isAgg87
  z212 := Tryd.sizeOf87
  v212 := Tryd.zeroValue87
  t213 := Tryd.underlying88
  a213 := Tryd.isAgg88
  z213 := Tryd.sizeOf88
  t232 := Tryd.underlying92
  a232 := Tryd.isAgg92
  z232 := Tryd.sizeOf92
  v232 := Tryd.zeroValue92
  t233 := Tryd.underlying93
  a233 := Tryd.isAgg93
  z233 := Tryd.sizeOf93
  v233 := Tryd.zeroValue93
  g15 := by kernel_rfl
  g16 := by kernel_rfl
  g17 := by kernel_rfl
  g18 := by kernel_rfl
  g19 := by kernel_rfl
theorem caAtoi : CaT Tryd.prog 26 := CaT.of Tryd.func26 (by kernel_rfl) (by kernel_rfl)
theorem ext_bytes (w : World) (e : TypeId) (s : ByteArray) : Ext [] w (Lib.bytesWorld w e s) := Ext.of_below (Lib.bytesWorld_below w e s)
theorem atoi_c (w : World) (s : List UInt8) (n : Int) (hl : s.length ≤ 18) (h : Lib.atoi s = some n) : Calls Tryd.prog 26 [.string (bs s)].toArray w (fun e w' => e = .returned (.tuple #[.int .i64 n, .nilIface]) ∧ Ext [] w w') :=
  (Any.strconv_Atoi lays172 (bs s) n (by simpa [bs, ByteArray.size] using hl) h w).mono fun _ _ ⟨h1, t, h2⟩ => ⟨h1, h2 ▸ ext_bytes _ _ _⟩
section
variable {P : Program} {n : Nat} {ops : Array Oper} {Q : Post} {rest : List Oper} {l : Fr} {H : World → Prop} {d : Nat} {ty : TypeId} {pos : String} {af : Array Edge} {x : Operand} {xt yt : TypeId}
theorem RW.neqNil (ht : P.underlying xt = some (.interface (P.methodsAt xt))) (hd : Nat.blt d n = true) (hx : ev l x = some .nilIface)
    (h : RW P n ops Q rest ((d, .bool false) :: l) H) : RW P n ops Q (⟨some d, .binOp .neq xt x (.const .nilIface) yt, ty, pos, af, none⟩ :: rest) l H :=
  RW.val _ hd (fun ρ w hρ => by
    have e1 : ρ (.const .nilIface) = .nilIface := hρ _ _ rfl
    have e2 := run_neq_nil_nil (P := P) w xt ht
    simp [execOp, hρ x _ hx, e1, eqGuard_nil_constR, e2]) h
end
theorem nameAt_get {i : Nat} (hi : i < 18) : nameAt i = allL.getD i [] := by
  rw [← allL_eq, List.getD_eq_getElem?_getD, List.getElem?_map, List.getElem?_range hi]
  rfl
theorem name_facts : ∀ i, i < 18 → (allL.getD i []).length ≤ 6 ∧ ((allL.getD i []).take 1 = [63] ↔ 2 ≤ i) ∧ Lib.atoi (if (allL.getD i []).take 1 = [63] then (allL.getD i []).drop 1 else allL.getD i []) = some (numsL.getD i 0) := by decide
theorem place_at : ∀ i, i < 18 → isAt (decide (2 ≤ i)) (numsL.getD i 0) i = true := by decide
def orF (l : List Nat) : Nat := l.foldl (fun b i => b ||| 2 ^ i) 0
theorem orF_bit (j : Nat) : ∀ (l : List Nat) (b : Nat), (l.foldl (fun b i => b ||| 2 ^ i) b).testBit j = (b.testBit j || decide (j ∈ l))
  | [], b => by simp
  | i :: l, b => by
    rw [List.foldl_cons, orF_bit j l, Nat.testBit_or, Nat.testBit_two_pow]
    by_cases h : i = j
    · subst h; simp
    · have : ¬ j = i := fun e => h e.symm
      simp [h, this]
def isB (b : Nat) : List Nat := (List.range 18).filter (bitF b)
theorem listF_is (b : Nat) : listF b = (isB b).map nameAt := rfl
theorem isB_lt {b i : Nat} (h : i ∈ isB b) : i < 18 := by
  have := (List.mem_filter.1 h).1
  simpa using this
theorem orF_lt : ∀ (l : List Nat) (b : Nat), (∀ i ∈ l, i < 18) → b < 262144 → l.foldl (fun b i => b ||| 2 ^ i) b < 262144
  | [], b, _, h => h
  | i :: l, b, hl, h => by
    rw [List.foldl_cons]
    exact orF_lt l _ (fun j hj => hl j (by simp [hj])) (Nat.or_lt_two_pow (n := 18) h (Nat.pow_lt_pow_right (by decide) (hl i (by simp))))
theorem orF_all {b : Nat} (hb : b < 262144) : orF (isB b) = b := by
  refine eq_of_bits (orF_lt _ _ (fun i hi => isB_lt hi) (by decide)) hb fun i hi => ?_
  rw [bitF_test, orF, orF_bit, Nat.zero_testBit, Bool.false_or]
  simp [isB, hi]
theorem orF_take {b k i : Nat} (h : (isB b)[k]? = some i) : orF ((isB b).take (k + 1)) = withF (orF ((isB b).take k)) (decide (2 ≤ i)) (numsL.getD i 0) true := by
  have hi := isB_lt (List.mem_of_getElem? h)
  rw [List.take_add_one, h, Option.toList_some, orF, List.foldl_append]
  unfold withF
  rw [placeF_of (place_at i hi)]
  rfl
theorem parse_c (w : World) (hg : Gl w) (b : Nat) (hb : b < 262144) (F : Nat → Prop) (A : Option Addr) (n c : Nat) (hr : Rd EStr w F A n c (listF b)) :
    Calls Tryd.prog 20 [.slice A n c].toArray w (fun e w' => e = .returned (.tuple #[setV b, .int .i64 0]) ∧ Ext [] w w') := by
  have hlen := hr.len
  have hln := listTo_len b 18
  have hn18 : n ≤ 18 := by rw [← hlen]; exact hln
  rw [listF_is] at hr hlen
  rw [List.length_map] at hlen
  refine calls (n := 49) Tryd.func20 rfl Tryd.ntmps20 rfl ?_
  refine CW.sub (H' := SH w [] []) ?_ (Sub.refl _) (fun x hx => SH.start' _ _ hx)
  refine CW.seq (CW.region ?_)
  refine RW.allocA ag26 rfl (fun g2 hg2 hf2 => ?_)
  refine RW.assign rfl rfl ?_
  refine RW.nil (EX.seq (CW.seq (CW.region ?_)))
  refine RW.allocA ag26 rfl (fun g4 hg4 hf4 => ?_)
  refine RW.nil (EX.seq (CW.seq (CW.seq (CW.region ?_))))
  refine RW.move rfl rfl ?_
  refine RW.lenSl Tryd.underlying28 rfl rfl ?_
  refine RW.move rfl rfl ?_
  refine RW.nil (EX.seq (CW.block ?_))
  -- mq: loop
  refine CW.loop (ι := Nat) (fun k => [(2, .pointer (some ⟨g2, 0, none⟩)), (4, .pointer (some ⟨g4, 0, none⟩)), (11, .slice A n c), (12, .int .i64 (n : Int)), (13, .int .i64 (k : Int))]) (fun k => SH w [] [blk g4 [.int .u32 (orF ((isB b).take k) : Int)] 26, blk g2 [.int .u32 0] 26]) (fun k => k ≤ n) (fun k => n - k) ?_ ?_
  · exact fun w hw => ⟨0, Nat.zero_le _, (by repeat (first | exact Sub.nil | refine Sub.cons (by rfl) ?_)), hw⟩
  · intro k hk
    refine CW.seq (CW.region ?_)
    refine RW.lss rfl rfl rfl ?_
    refine RW.nil (EX.seq (CW.seq ?_))
    -- mq: cond
    first | refine CW.condD rfl (fun hlt => ?_) (fun hlt => ?_) | refine CW.cond rfl (fun hlt => ?_) (fun hlt => ?_)
    · skip
      obtain ⟨i, hi⟩ : ∃ i, (isB b)[k]? = some i := ⟨(isB b)[k]'(by omega), List.getElem?_eq_getElem _⟩
      have hi18 := isB_lt (List.mem_of_getElem? hi)
      have hL : ((isB b).map nameAt)[k]? = some (nameAt i) := by rw [List.getElem?_map, hi]; rfl
      have hsn := orF_take hi
      have hor : orF ((isB b).take k) < 262144 := orF_lt _ _ (fun j hj => isB_lt (List.mem_of_mem_take hj)) (by decide)
      have hnm : nameAt i = nameL (decide (2 ≤ i)) (numsL.getD i 0) := rfl
      have hkn : (placeF (decide (2 ≤ i)) (numsL.getD i 0)).isSome = true := by rw [placeF_of (place_at i hi18)]; rfl
      have hxb : ∀ i, i < 18 → 0 ≤ numsL.getD i 0 ∧ numsL.getD i 0 ≤ 2004 := by decide
      have hxi := hxb i hi18
      obtain ⟨hf1, hf2, hf3⟩ := name_facts i hi18
      rw [← nameAt_get hi18] at hf1 hf2 hf3
      have hdig : (if (nameAt i).take 1 = [63] then (nameAt i).drop 1 else nameAt i).length ≤ 18 := by
        split
        · rw [List.length_drop]; omega
        · omega
      have hd2 : decide ((nameAt i).take 1 = [63]) = decide (2 ≤ i) := decide_eq_decide.2 hf2
      obtain ⟨ad, hA, _, hcell⟩ := hr.at_ hL
      refine CW.skip (EX.seq (CW.seq (CW.block (CW.seq (CW.region ?_)))))
      refine RW.ixAddr (q := k) sl28 rfl rfl rfl hA (by omega) (by omega) ?_
      refine RW.load1 sc9 rfl rfl (fun w' hw' => hw'.base_cell (hcell 0 _ rfl) (by simp)) ?_
      refine RW.assign rfl rfl ?_
      refine RW.nil (EX.seq (CW.seq ?_))
      -- mq: region
      refine CW.region ?_
      refine RW.move rfl rfl ?_
      -- mq: at
      refine RW.call rfl ca25 rfl (fun w' _ => cutPrefix_c w' (nameAt i) [63] (by omega) (by decide)) ?_
      rw [show ([63] : List UInt8).length = 1 from rfl, hd2]
      refine RW.move rfl rfl ?_
      refine RW.extract rfl rfl rfl ?_
      refine RW.extract rfl rfl rfl ?_
      refine RW.assign rfl rfl ?_
      refine RW.assign rfl rfl ?_
      refine RW.nil (EX.seq (CW.seq ?_))
      -- mq: region
      refine CW.region ?_
      refine RW.move rfl rfl ?_
      refine RW.call rfl caAtoi rfl (fun w' hw' => atoi_c w' _ _ hdig hf3) ?_
      refine RW.move rfl rfl ?_
      refine RW.extract rfl rfl rfl ?_
      refine RW.extract rfl rfl rfl ?_
      refine RW.assign rfl rfl ?_
      refine RW.assign rfl rfl ?_
      refine RW.nil (EX.seq (CW.seq (CW.seq ?_)))
      -- mq: region
      refine CW.region ?_
      refine RW.move rfl rfl ?_
      refine RW.neqNil Tryd.underlying54 rfl rfl ?_
      refine RW.move rfl rfl ?_
      refine RW.guardT rfl rfl rfl ?_
      refine RW.move rfl rfl ?_
      refine RW.guardT rfl rfl rfl ?_
      refine RW.move rfl rfl ?_
      refine RW.guardT rfl rfl rfl ?_
      refine RW.call rfl ca17 rfl (fun w' _ => known_c w' _ _) ?_
      refine RW.guardT rfl rfl rfl ?_
      refine RW.not_ rfl rfl ?_
      refine RW.pickC rfl rfl rfl rfl ?_
      refine RW.move rfl rfl ?_
      refine RW.guardT rfl rfl (by rw [hkn]; rfl) ?_
      refine RW.move rfl rfl ?_
      refine RW.guardT rfl rfl (by rw [hkn]; rfl) ?_
      refine RW.move rfl rfl ?_
      refine RW.guardT rfl rfl (by rw [hkn]; rfl) ?_
      refine RW.call rfl ca24 rfl (fun w' hw' => name_c w' (hg.ext hw'.ext) _ _ (by omega)) ?_
      refine RW.guardT rfl rfl (by rw [hkn]; rfl) ?_
      refine RW.move rfl rfl ?_
      refine RW.guardT rfl rfl (by rw [hkn]; rfl) ?_
      refine RW.neqS rfl rfl rfl ?_
      refine RW.pickC rfl rfl (by rw [hkn]; rfl) rfl ?_
      refine RW.nil (EX.seq ?_)
      -- mq: cond
      refine CW.condF rfl ((by rw [hnm]; simp)) ?_
      refine CW.skip (EX.seq ?_)
      -- mq: region
      refine CW.region ?_
      refine RW.loadBA ag26 rfl rfl (by first | exact Has.head | exact Has.tail Has.head | exact Has.tail (Has.tail Has.head) | exact Has.tail (Has.tail (Has.tail Has.head)) | exact Has.tail (Has.tail (Has.tail (Has.tail Has.head))) | exact Has.tail (Has.tail (Has.tail (Has.tail (Has.tail Has.head)))) | exact Has.tail (Has.tail (Has.tail (Has.tail (Has.tail (Has.tail Has.head)))))) rfl rfl ?_
      refine RW.move rfl rfl ?_
      refine RW.move rfl rfl ?_
      refine RW.call rfl ca10 rfl (fun w' _ => with_c w' _ (by omega) _ _ true) ?_
      refine RW.storeA ag26 rfl rfl (by first | exact Upd.head | exact Upd.tail Upd.head | exact Upd.tail (Upd.tail Upd.head) | exact Upd.tail (Upd.tail (Upd.tail Upd.head)) | exact Upd.tail (Upd.tail (Upd.tail (Upd.tail Upd.head))) | exact Upd.tail (Upd.tail (Upd.tail (Upd.tail (Upd.tail Upd.head)))) | exact Upd.tail (Upd.tail (Upd.tail (Upd.tail (Upd.tail (Upd.tail Upd.head)))))) (by first | rfl | exact Enc.len _ _) (by repeat (first | exact Ones.nil | exact Enc.ones _ _ | refine Ones.cons rfl ?_)) (by first | exact Nat.le_of_ble_eq_true rfl | (simp only [Enc.len]; decide)) ?_
      refine RW.nil (EX.bkN (EX.seq (CW.region ?_)))
      refine RW.add rfl rfl rfl (wrap64 (by omega) (by omega)) ?_
      refine RW.move rfl rfl ?_
      refine RW.nil ?_
      -- mq: loopend
      refine EX.lpN (k + 1) (by omega) (by omega) (by repeat (first | exact Sub.nil | refine Sub.cons (by rfl) ?_)) (fun w' hw' => ?_)
      rw [hsn]
      exact hw'
    · skip
      obtain rfl : k = n := by omega
      rw [List.take_of_length_le (by omega), orF_all hb]
      refine CW.exit (EX.seqE (EX.lpE (EX.bkE (EX.seq (CW.seq (CW.region ?_))))))
      refine RW.loadBA ag26 rfl rfl (by first | exact Has.head | exact Has.tail Has.head | exact Has.tail (Has.tail Has.head) | exact Has.tail (Has.tail (Has.tail Has.head)) | exact Has.tail (Has.tail (Has.tail (Has.tail Has.head))) | exact Has.tail (Has.tail (Has.tail (Has.tail (Has.tail Has.head)))) | exact Has.tail (Has.tail (Has.tail (Has.tail (Has.tail (Has.tail Has.head)))))) rfl rfl ?_
      refine RW.storeA ag26 rfl rfl (by first | exact Upd.head | exact Upd.tail Upd.head | exact Upd.tail (Upd.tail Upd.head) | exact Upd.tail (Upd.tail (Upd.tail Upd.head)) | exact Upd.tail (Upd.tail (Upd.tail (Upd.tail Upd.head))) | exact Upd.tail (Upd.tail (Upd.tail (Upd.tail (Upd.tail Upd.head)))) | exact Upd.tail (Upd.tail (Upd.tail (Upd.tail (Upd.tail (Upd.tail Upd.head)))))) (by first | rfl | exact Enc.len _ _) (by repeat (first | exact Ones.nil | exact Enc.ones _ _ | refine Ones.cons rfl ?_)) (by first | exact Nat.le_of_ble_eq_true rfl | (simp only [Enc.len]; decide)) ?_
      refine RW.assign rfl rfl ?_
      refine RW.nil (EX.seq (CW.ret ?_))
      refine EX.fin2' Tryd.results20 (RV.cellA ag26 rfl (by first | exact Has.head | exact Has.tail Has.head | exact Has.tail (Has.tail Has.head) | exact Has.tail (Has.tail (Has.tail Has.head)) | exact Has.tail (Has.tail (Has.tail (Has.tail Has.head))) | exact Has.tail (Has.tail (Has.tail (Has.tail (Has.tail Has.head)))) | exact Has.tail (Has.tail (Has.tail (Has.tail (Has.tail (Has.tail Has.head)))))) rfl rfl) (RV.tmp rfl) (fun wz hw => ?_)
      -- mq: done
      exact ⟨rfl, hw.ext⟩
theorem heq (a b : Nat) : eqv [.int .u32 (a : Int)] [.int .u32 (b : Int)] = decide (a = b) := by
  simp [eqv, veq]; omega
theorem modeBack_c (w : World) (hg : Gl w) (F : Nat → Prop) (A : Option Addr) (m c : Nat) (l : List OpV) (hr : Rd EOp w F A m c l) (hm : m ≤ 140737488351232) :
    Calls Tryd.prog 6 [.slice A m c].toArray w (fun e w' => e = .returned (.bool true) ∧ Ext [] w w') := by
  have hl := hr.len
  have hb0 : newB < 262144 := by decide
  refine calls (n := 52) Tryd.func6 rfl Tryd.ntmps6 rfl ?_
  refine CW.sub (H' := SH w [] []) ?_ (Sub.refl _) (fun x hx => SH.start' _ _ hx)
  refine CW.seq (CW.region ?_)
  refine RW.assign rfl rfl ?_
  refine RW.nil (EX.seq (CW.seq (CW.seq (CW.region ?_))))
  refine RW.move rfl rfl ?_
  refine RW.lenSl Tryd.underlying22 rfl rfl ?_
  refine RW.gtr rfl rfl rfl ?_
  refine RW.move rfl rfl ?_
  -- mq: guard slot 10
  refine RW.casesB 10 rfl (fun h1 => ?_) (fun h1 => ?_)
  · skip
    have h1p := of_decide_eq_true h1
    refine RW.guardF rfl rfl rfl h1 ?_
    refine RW.guardF rfl rfl rfl h1 ?_
    refine RW.pickB rfl rfl h1 rfl ?_
    refine RW.nil (EX.seq ?_)
    -- mq: cond
    refine CW.condT rfl (rfl) ?_
    refine CW.seq (CW.region ?_)
    refine RW.call rfl ca7 rfl (fun w' hw' => awake_c w' (hg.ext hw'.ext)) ?_
    refine RW.assign rfl rfl ?_
    refine RW.nil (EX.seq (CW.ret (EX.seqR ?_)))
    refine EX.fin1 Tryd.results6 rfl (fun wz hw => ?_)
    -- mq: done
    exact ⟨rfl, hw.ext⟩
  · skip
    have h1p := of_decide_eq_false h1
    refine RW.guardT rfl rfl h1 ?_
    refine RW.call rfl ca7 rfl (fun w' hw' => awake_c w' (hg.ext hw'.ext)) ?_
    refine RW.guardT rfl rfl h1 ?_
    refine RW.not_ rfl rfl ?_
    refine RW.pickC rfl rfl h1 rfl ?_
    refine RW.nil (EX.seq ?_)
    -- mq: cond
    refine CW.condF rfl (rfl) ?_
    refine CW.skip (EX.seq (CW.seq ?_))
    -- mq: region
    refine CW.region ?_
    refine RW.call rfl ca8 rfl (fun w' _ => new_c w') ?_
    refine RW.allocA ag26 rfl (fun g3 hg3 hf3 => ?_)
    refine RW.storeA ag26 rfl rfl (by first | exact Upd.head | exact Upd.tail Upd.head | exact Upd.tail (Upd.tail Upd.head) | exact Upd.tail (Upd.tail (Upd.tail Upd.head)) | exact Upd.tail (Upd.tail (Upd.tail (Upd.tail Upd.head))) | exact Upd.tail (Upd.tail (Upd.tail (Upd.tail (Upd.tail Upd.head)))) | exact Upd.tail (Upd.tail (Upd.tail (Upd.tail (Upd.tail (Upd.tail Upd.head)))))) (by first | rfl | exact Enc.len _ _) (by repeat (first | exact Ones.nil | exact Enc.ones _ _ | refine Ones.cons rfl ?_)) (by first | exact Nat.le_of_ble_eq_true rfl | (simp only [Enc.len]; decide)) ?_
    refine RW.nil (EX.seq (CW.seq (CW.seq (CW.region ?_))))
    refine RW.assign rfl rfl ?_
    refine RW.nil (EX.seq (CW.block ?_))
    -- mq: loop
    refine CW.loop (ι := Nat) (fun i => [(0, .slice A m c), (3, .pointer (some ⟨g3, 0, none⟩)), (4, .int .i64 (i : Int))]) (fun i => SH w [] [blk g3 [.int .u32 (playF newB (l.take i) : Int)] 26]) (fun i => i ≤ m) (fun i => m - i) ?_ ?_
    · exact fun w hw => ⟨0, Nat.zero_le _, (by repeat (first | exact Sub.nil | refine Sub.cons (by rfl) ?_)), hw⟩
    · rintro i hi
      have hbi := playF_lt newB hb0 (l.take i)
      refine CW.seq (CW.seq (CW.region ?_))
      refine RW.move rfl rfl ?_
      refine RW.move rfl rfl ?_
      refine RW.lenSl Tryd.underlying22 rfl rfl ?_
      refine RW.lss rfl rfl rfl ?_
      refine RW.nil (EX.seq ?_)
      -- mq: cond
      first | refine CW.condD rfl (fun hlt1 => ?_) (fun hlt1 => ?_) | refine CW.cond rfl (fun hlt1 => ?_) (fun hlt1 => ?_)
      · skip
        obtain ⟨q, ho⟩ : ∃ q, l[i]? = some q := ⟨l[i]'(by omega), List.getElem?_eq_getElem _⟩
        have hnx := playF_snoc (b := newB) ho
        obtain ⟨ad, hA, hFb, hcell⟩ := hr.at_ ho
        refine CW.skip (EX.seq (CW.seq (CW.block ?_)))
        -- mq: region
        refine CW.drawS [true, true, true, true, true, true, true, true, true, true, true, true, true, true, true, true, false, false] 0 (SH w [] [blk g3 [.int .u32 (playF newB (l.take i) : Int)] 26]) mixed (by kernel_rfl) (fun _ hw => hw.drew) (fun _ h => by first | exact h | (have h1 := h.rem Rem.head; first | exact h1 | (have h2 := h1.rem Rem.head; first | exact h2 | (have h3 := h2.rem Rem.head; exact h3)))) (by repeat (first | exact NoP.fin | exact NoP.jn | refine NoP.sq ?_ | refine NoP.bk ?_ | refine NoP.lp ?_)) ?_
        refine QuW.cons rfl (fun wq hq => (RW.loadA ag26 rfl rfl rfl (fun w1 e1 j u hj => by subst e1; exact hq.blk_at (sz := 1) (by first | exact Has.head | exact Has.tail Has.head | exact Has.tail (Has.tail Has.head) | exact Has.tail (Has.tail (Has.tail Has.head)) | exact Has.tail (Has.tail (Has.tail (Has.tail Has.head))) | exact Has.tail (Has.tail (Has.tail (Has.tail (Has.tail Has.head)))) | exact Has.tail (Has.tail (Has.tail (Has.tail (Has.tail (Has.tail Has.head)))))) rfl j u hj) RW.jn)) ?_
        refine QuW.cons rfl (fun wq hq => (RW.move rfl rfl RW.jn)) ?_
        refine QuW.cons rfl (fun wq hq => (RW.move rfl rfl RW.jn)) ?_
        refine QuW.cons rfl (fun wq hq => (RW.ixAddr (q := i) sl22 rfl rfl rfl (by first | rfl | assumption) (by omega) (by omega) RW.jn)) ?_
        refine QuW.cons rfl (fun wq hq => (RW.fieldP fl33x0 rfl rfl RW.jn)) ?_
        refine QuW.cons rfl (fun wq hq => (RW.load1 sc4 rfl rfl (fun w1 e1 => by subst e1; exact (hq.base_cell (hcell 0 _ rfl) (by simp))) RW.jn)) ?_
        refine QuW.cons rfl (fun wq hq => (RW.move rfl rfl RW.jn)) ?_
        refine QuW.cons rfl (fun wq hq => (RW.move rfl rfl RW.jn)) ?_
        refine QuW.cons rfl (fun wq hq => (RW.ixAddr (q := i) sl22 rfl rfl rfl (by first | rfl | assumption) (by omega) (by omega) RW.jn)) ?_
        refine QuW.cons rfl (fun wq hq => (RW.fieldP fl33x1 rfl rfl RW.jn)) ?_
        refine QuW.cons rfl (fun wq hq => (RW.load1 sc3 rfl rfl (fun w1 e1 => by subst e1; exact (hq.base_cell (hcell 1 _ rfl) (by simp))) RW.jn)) ?_
        refine QuW.cons rfl (fun wq hq => (RW.move rfl rfl RW.jn)) ?_
        refine QuW.cons rfl (fun wq hq => (RW.move rfl rfl RW.jn)) ?_
        refine QuW.cons rfl (fun wq hq => (RW.ixAddr (q := i) sl22 rfl rfl rfl (by first | rfl | assumption) (by omega) (by omega) RW.jn)) ?_
        refine QuW.cons rfl (fun wq hq => (RW.fieldP fl33x2 rfl rfl RW.jn)) ?_
        refine QuW.cons rfl (fun wq hq => (RW.load1 sc4 rfl rfl (fun w1 e1 => by subst e1; exact (hq.base_cell (hcell 2 _ rfl) (by simp))) RW.jn)) ?_
        refine QuW.skip ?_
        refine QuW.skip ?_
        refine QuW.nil ?_
        refine SpW.hard ?_
        refine RW.call rfl ca10 rfl (fun w' _ => with_c w' _ (by omega) q.p q.n q.on) ?_
        refine RW.storeA ag26 rfl rfl (by first | exact Upd.head | exact Upd.tail Upd.head | exact Upd.tail (Upd.tail Upd.head) | exact Upd.tail (Upd.tail (Upd.tail Upd.head)) | exact Upd.tail (Upd.tail (Upd.tail (Upd.tail Upd.head))) | exact Upd.tail (Upd.tail (Upd.tail (Upd.tail (Upd.tail Upd.head)))) | exact Upd.tail (Upd.tail (Upd.tail (Upd.tail (Upd.tail (Upd.tail Upd.head)))))) (by first | rfl | exact Enc.len _ _) (by repeat (first | exact Ones.nil | exact Enc.ones _ _ | refine Ones.cons rfl ?_)) (by first | exact Nat.le_of_ble_eq_true rfl | (simp only [Enc.len]; decide)) ?_
        refine RW.nil (EX.bkN (EX.seq (CW.region ?_)))
        refine RW.move rfl rfl ?_
        refine RW.add rfl rfl rfl (wrap64 (by omega) (by omega)) ?_
        refine RW.assign rfl rfl ?_
        refine RW.nil ?_
        -- mq: loopend
        refine EX.lpN (i + 1) (by omega) (by omega) (by repeat (first | exact Sub.nil | refine Sub.cons (by rfl) ?_)) (fun w' hw' => ?_)
        rw [hnx]
        exact hw'
      · skip
        have him : m = i := by omega
        subst him
        rw [List.take_of_length_le (by omega)] at hbi ⊢
        refine CW.exit (EX.seqE (EX.lpE (EX.bkE (EX.seq (CW.seq ?_)))))
        -- mq: region
        refine CW.region ?_
        refine RW.loadBA ag26 rfl rfl (by first | exact Has.head | exact Has.tail Has.head | exact Has.tail (Has.tail Has.head) | exact Has.tail (Has.tail (Has.tail Has.head)) | exact Has.tail (Has.tail (Has.tail (Has.tail Has.head))) | exact Has.tail (Has.tail (Has.tail (Has.tail (Has.tail Has.head)))) | exact Has.tail (Has.tail (Has.tail (Has.tail (Has.tail (Has.tail Has.head)))))) rfl rfl ?_
        refine RW.callK rfl ca14 rfl (fun w' hw' => list_c w' (hg.ext hw'.ext) _ (by omega)) (fun w3 w4 A4 n4 c4 hw3 he34 hw4 hlt4 hrd4 => ?_)
        refine RW.call rfl ca20 rfl (fun w' hw' => parse_c w' (hg.ext (hw'.unbase (hw3.ext.trans0 he34) hw3.cov).ext) _ hbi _ _ _ _ (hrd4.ext hw'.ext (fun k hk hk2 => by have := hlt4 k hk2; omega))) ?_
        refine RW.move rfl rfl ?_
        refine RW.extract rfl rfl rfl ?_
        refine RW.extract rfl rfl rfl ?_
        refine RW.allocA ag26 rfl (fun g5 hg5 hf5 => ?_)
        refine RW.storeA ag26 rfl rfl (by first | exact Upd.head | exact Upd.tail Upd.head | exact Upd.tail (Upd.tail Upd.head) | exact Upd.tail (Upd.tail (Upd.tail Upd.head)) | exact Upd.tail (Upd.tail (Upd.tail (Upd.tail Upd.head))) | exact Upd.tail (Upd.tail (Upd.tail (Upd.tail (Upd.tail Upd.head)))) | exact Upd.tail (Upd.tail (Upd.tail (Upd.tail (Upd.tail (Upd.tail Upd.head)))))) (by first | rfl | exact Enc.len _ _) (by repeat (first | exact Ones.nil | exact Enc.ones _ _ | refine Ones.cons rfl ?_)) (by first | exact Nat.le_of_ble_eq_true rfl | (simp only [Enc.len]; decide)) ?_
        refine RW.assign rfl rfl ?_
        refine RW.nil (EX.seq (CW.seq (CW.region ?_)))
        refine RW.move rfl rfl ?_
        refine RW.eqlI rfl rfl rfl ?_
        refine RW.move rfl rfl ?_
        refine RW.guardT rfl rfl rfl ?_
        refine RW.loadBA ag26 rfl rfl (by first | exact Has.head | exact Has.tail Has.head | exact Has.tail (Has.tail Has.head) | exact Has.tail (Has.tail (Has.tail Has.head)) | exact Has.tail (Has.tail (Has.tail (Has.tail Has.head))) | exact Has.tail (Has.tail (Has.tail (Has.tail (Has.tail Has.head)))) | exact Has.tail (Has.tail (Has.tail (Has.tail (Has.tail (Has.tail Has.head)))))) rfl rfl ?_
        refine RW.guardT rfl rfl rfl ?_
        refine RW.loadBA ag26 rfl rfl (by first | exact Has.head | exact Has.tail Has.head | exact Has.tail (Has.tail Has.head) | exact Has.tail (Has.tail (Has.tail Has.head)) | exact Has.tail (Has.tail (Has.tail (Has.tail Has.head))) | exact Has.tail (Has.tail (Has.tail (Has.tail (Has.tail Has.head)))) | exact Has.tail (Has.tail (Has.tail (Has.tail (Has.tail (Has.tail Has.head)))))) rfl rfl ?_
        refine RW.guardT rfl rfl rfl ?_
        refine RW.eqlSt eq26 rfl rfl rfl (by kernel_rfl) (heq _ _) ?_
        refine RW.pickB rfl rfl rfl rfl ?_
        refine RW.assign rfl rfl ?_
        refine RW.nil (EX.seq (CW.ret ?_))
        refine EX.fin1 Tryd.results6 rfl (fun wz hw => ?_)
        -- mq: done
        refine ⟨by simp, (hw.unbase (hw3.ext.trans0 he34) hw3.cov).ext⟩
end Go.Proofs.YtpjehphcpegajaaDoor.Mq
