/- osc: Code, hex, Unescape, Escape (printed by gen_o1.py) -/
import Derived.Test.YtemcblinkicblaaDoorOd
import Derived.Test.YtemcblinkicblaaDoorCut
import Derived.Laws.RangeAny
import Derived.Shelf.GgClosure.StringsIndexFuncTop
namespace Go.Proofs.YtemcblinkicblaaDoor.Mq
open Go Go.RowKit Go.Proofs

def inDig (r : Nat) : Bool := decide (48 ≤ r) && decide (r ≤ 57)
def rnG : Shelf.Ren := ⟨fun | 15 => 31 | 20 => 49 | n => n, fun | 0 => 0 | 3 => 3 | 4 => 4 | 9 => 9 | 21 => 21 | 23 => 51 | n => n, fun n => n⟩
theorem laysIF : LaysGw.n15 Tryd.prog rnG where
  mixed := by kernel_rfl
  f15 := Tryd.func31.trans (congrArg some (by kernel_rfl))
  f20 := Tryd.func49.trans (congrArg some (by kernel_rfl))
  t0 := Tryd.underlying0
  a0 := Tryd.isAgg0
  z0 := Tryd.sizeOf0
  v0 := Tryd.zeroValue0
  i0 := by kernel_rfl
  t3 := Tryd.underlying3
  a3 := Tryd.isAgg3
  z3 := Tryd.sizeOf3
  v3 := Tryd.zeroValue3
  i3 := by kernel_rfl
  t4 := Tryd.underlying4
  a4 := Tryd.isAgg4
  z4 := Tryd.sizeOf4
  v4 := Tryd.zeroValue4
  i4 := by kernel_rfl
  t9 := Tryd.underlying9
  a9 := Tryd.isAgg9
  z9 := Tryd.sizeOf9
  v9 := Tryd.zeroValue9
  i9 := by kernel_rfl
  t21 := Tryd.underlying21
  a21 := Tryd.isAgg21
  z21 := Tryd.sizeOf21
  v21 := Tryd.zeroValue21
  i21 := by kernel_rfl
  t23 := Tryd.underlying51
  a23 := Tryd.isAgg51
  z23 := Tryd.sizeOf51
  v23 := Tryd.zeroValue51
  i23 := by kernel_rfl
theorem idx_dig (s : List UInt8) : ∀ (f pos : Nat), s.length ≤ f + pos → (Lib.idxFuncFrom (fun r => !inDig r) true (bs s) f pos < 0 ↔ ∀ (j : Nat) (c : UInt8), pos ≤ j → s[j]? = some c → inDig c.toNat = true)
  | 0, pos, h => by
    constructor
    · intro _ j c hj hc
      have := (List.getElem?_eq_some_iff.1 hc).1
      omega
    · intro _; simp [Lib.idxFuncFrom]
  | f + 1, pos, h => by
    unfold Lib.idxFuncFrom
    rw [bs_size]
    by_cases hp : pos < s.length
    · rw [if_pos hp]
      have hp' : pos < (bs s).size := by rw [bs_size]; exact hp
      have hb : (bs s)[pos]'hp' = s[pos] := by simp [bs, ByteArray.getElem_eq_getElem_data]
      by_cases ha : (s[pos]).toNat < 128
      · have hd := decode_ascii (bs s) pos hp' (by rw [hb]; exact ha)
        rw [hb] at hd
        rw [hd]
        dsimp only
        by_cases hin : inDig (s[pos]).toNat = true
        · rw [if_neg (by simp [hin]), idx_dig s f (pos + 1) (by omega)]
          constructor
          · intro hall j c hj hc
            by_cases hjp : j = pos
            · subst hjp
              rw [List.getElem?_eq_getElem hp] at hc
              simp only [Option.some.injEq] at hc
              rw [← hc]; exact hin
            · exact hall j c (by omega) hc
          · intro hall j c hj hc
            exact hall j c (by omega) hc
        · rw [if_pos (by simp [hin])]
          constructor
          · intro hneg; omega
          · intro hall
            exact absurd (hall pos s[pos] (Nat.le_refl _) (List.getElem?_eq_getElem hp)) hin
      · have hd := decode_high (bs s) pos hp' (by rw [hb]; omega)
        have hnin : ∀ r, 128 ≤ r → inDig r = false := fun r hr => by simp [inDig]; omega
        rw [if_pos (by simp [hnin _ hd.1])]
        constructor
        · intro hneg; omega
        · intro hall
          have := hall pos s[pos] (Nat.le_refl _) (List.getElem?_eq_getElem hp)
          rw [hnin _ (by omega)] at this
          cases this
    · rw [if_neg hp]
      constructor
      · intro _ j c hj hc
        have := (List.getElem?_eq_some_iff.1 hc).1
        omega
      · intro _; omega
theorem caC1 : CaT Tryd.prog 32 := CaT.of Tryd.func32 (by kernel_rfl) (by kernel_rfl)
theorem code1_c (w : World) (r : Nat) :
    Calls Tryd.prog 32 [.int .i32 (r : Int)].toArray w (fun e w' => e = .returned (.bool (!inDig r)) ∧ w' = w) := by
  refine calls (n := 9) Tryd.func32 rfl Tryd.ntmps32 rfl ?_
  refine CW.seq (CW.region ?_)
  refine RW.assign rfl rfl ?_
  refine RW.nil (EX.seq (CW.seq (CW.region ?_)))
  refine RW.move rfl rfl ?_
  refine RW.lss rfl rfl rfl ?_
  refine RW.move rfl rfl ?_
  -- mq: guard slot 5
  refine RW.casesB 5 rfl (fun h5 => ?_) (fun h5 => ?_)
  · skip
    have h5p := of_decide_eq_true h5
    refine RW.guardF rfl rfl rfl h5 ?_
    refine RW.guardF rfl rfl rfl h5 ?_
    refine RW.pickB rfl rfl h5 rfl ?_
    refine RW.assign rfl rfl ?_
    refine RW.nil (EX.seq (CW.ret ?_))
    refine EX.fin1 Tryd.results32 rfl (fun wz hw => ?_)
    -- mq: done
    refine ⟨?_, hw⟩
    rw [show inDig r = false by unfold inDig; rw [decide_eq_false (by omega)]; rfl]; rfl
  · skip
    have h5p := of_decide_eq_false h5
    refine RW.guardT rfl rfl h5 ?_
    refine RW.move rfl rfl ?_
    refine RW.guardT rfl rfl h5 ?_
    refine RW.gtr rfl rfl rfl ?_
    refine RW.pickC rfl rfl h5 rfl ?_
    refine RW.assign rfl rfl ?_
    refine RW.nil (EX.seq (CW.ret ?_))
    refine EX.fin1 Tryd.results32 rfl (fun wz hw => ?_)
    -- mq: done
    refine ⟨?_, hw⟩
    congr 2
    unfold inDig
    rw [decide_eq_true (show 48 ≤ r by omega), Bool.true_and]
    by_cases h : r ≤ 57
    · rw [decide_eq_true h, decide_eq_false (by omega)]; rfl
    · rw [decide_eq_false h, decide_eq_true (by omega)]; rfl
theorem indexDig_c (w : World) (s : List UInt8) :
    Calls Tryd.prog 31 [.string (bs s), .func (.func 32) #[] #[]].toArray w (fun e w' => ∃ n : Int, e = .returned (.int .i64 n) ∧ decide (0 ≤ n) = !s.all digitB ∧ Ext [] w w') := by
  refine Calls.mono (Any.strings_IndexFunc laysIF 32 #[] (fun args w => run_callFunc caC1 args w) (fun r => !inDig r) (bs s) w (fun W x _ => ?_)) (fun e w'' h => ⟨_, h.1, ?_, Ext.of_below h.2⟩)
  · refine Calls.mono (code1_c W x) (fun e w'' h => ⟨h.1, 0, ?_⟩)
    rw [h.2]; rfl
  · have := idx_dig s s.length 0 (by omega)
    rw [Lib.idxFunc, bs_size]
    have hall : (s.all digitB = true) ↔ Lib.idxFuncFrom (fun r => !inDig r) true (bs s) s.length 0 < 0 := by
      rw [this, List.all_eq_true]
      constructor
      · intro h j c _ hc
        have := of_decide_eq_true (h c (List.mem_of_getElem? hc))
        unfold inDig; rw [decide_eq_true this.1, decide_eq_true this.2]; rfl
      · intro h c hc
        obtain ⟨j, hj⟩ := List.getElem?_of_mem hc
        have := h j c (Nat.zero_le _) hj
        unfold inDig at this
        rw [Bool.and_eq_true, decide_eq_true_eq, decide_eq_true_eq] at this
        exact decide_eq_true this
    cases hb : s.all digitB with
    | true =>
      have := hall.1 hb
      rw [decide_eq_false (by omega)]; rfl
    | false =>
      have : ¬ Lib.idxFuncFrom (fun r => !inDig r) true (bs s) s.length 0 < 0 := fun h => by
        have := hall.2 h
        rw [hb] at this; cases this
      rw [decide_eq_true (by omega)]; rfl
theorem caTrimPrefixL : CaT Tryd.prog 48 := CaT.of Tryd.func48 (by kernel_rfl) (by kernel_rfl)
theorem trimPrefixL_c (w : World) (s p : List UInt8) (hs : s.length ≤ 9223372036854775807) (hp : p.length ≤ 9223372036854775807) : Calls Tryd.prog 48 [.string (bs s), .string (bs p)].toArray w (fun e w' => e = .returned (.string (bs (if s.take p.length = p then s.drop p.length else s))) ∧ Ext [] w w') := by
  refine calls (n := 13) Tryd.func48 rfl Tryd.ntmps48 rfl ?_
  refine CW.sub (H' := SH w [] []) ?_ (Sub.refl _) (fun x hx => SH.start' _ _ hx)
  refine CW.seq (CW.region ?_)
  refine RW.assign rfl rfl ?_
  refine RW.nil (EX.seq (CW.seq (CW.seq ?_)))
  -- mq: region
  refine CW.region ?_
  refine RW.move rfl rfl ?_
  refine RW.move rfl rfl ?_
  refine RW.call rfl caHasPrefixL rfl (fun w' _ => hasPrefix_c w' s p hs hp) ?_
  refine RW.nil (EX.seq ?_)
  -- mq: cond
  first | refine CW.condD rfl (fun h => ?_) (fun h => ?_) | refine CW.cond rfl (fun h => ?_) (fun h => ?_)
  · skip
    have hl : p.length ≤ s.length := by have := congrArg List.length h; simp at this; omega
    refine CW.seq (CW.region ?_)
    refine RW.move rfl rfl ?_
    refine RW.move rfl rfl ?_
    refine RW.lenS Tryd.underlying9 rfl rfl ?_
    refine RW.sliceStrL p.length Tryd.underlying9 rfl rfl rfl (by first | rfl | omega) (by first | omega | (simp; done) | (simp; omega)) ?_
    refine RW.assign rfl rfl ?_
    refine RW.nil (EX.seq (CW.ret (EX.seqR ?_)))
    refine EX.fin1 Tryd.results48 rfl (fun wz hw => ?_)
    -- mq: done
    exact ⟨by rw [if_pos h], hw.ext⟩
  · skip
    refine CW.skip (EX.seq (CW.seq (CW.region ?_)))
    refine RW.move rfl rfl ?_
    refine RW.assign rfl rfl ?_
    refine RW.nil (EX.seq (CW.ret ?_))
    refine EX.fin1 Tryd.results48 rfl (fun wz hw => ?_)
    -- mq: done
    exact ⟨by rw [if_neg h], hw.ext⟩
theorem trimPrefix_c (w : World) (s p : List UInt8) (hs : s.length ≤ 9223372036854775807) (hp : p.length ≤ 9223372036854775807) : Calls Tryd.prog 30 [.string (bs s), .string (bs p)].toArray w (fun e w' => e = .returned (.string (bs (if s.take p.length = p then s.drop p.length else s))) ∧ Ext [] w w') := by
  refine calls (n := 8) Tryd.func30 rfl Tryd.ntmps30 rfl ?_
  refine CW.sub (H' := SH w [] []) ?_ (Sub.refl _) (fun x hx => SH.start' _ _ hx)
  refine CW.seq (CW.region ?_)
  refine RW.assign rfl rfl ?_
  refine RW.nil (EX.seq (CW.seq ?_))
  -- mq: region
  refine CW.region ?_
  refine RW.move rfl rfl ?_
  refine RW.move rfl rfl ?_
  refine RW.call rfl caTrimPrefixL rfl (fun w' _ => trimPrefixL_c w' s p hs hp) ?_
  refine RW.assign rfl rfl ?_
  refine RW.nil (EX.seq (CW.ret ?_))
  refine EX.fin1 Tryd.results30 rfl (fun wz hw => ?_)
  -- mq: done
  exact ⟨rfl, hw.ext⟩
theorem trim_codeD (s : List UInt8) : (if s.take [(45 : UInt8)].length = [45] then s.drop [(45 : UInt8)].length else s) = codeD s := by
  unfold codeD
  cases s with
  | nil => rfl
  | cons c l =>
    show (if [c] = [45] then l else c :: l) = if some c = some 45 then l else c :: l
    by_cases h : c = 45
    · rw [if_pos (by rw [h]), if_pos (by rw [h])]
    · rw [if_neg (fun e => h (List.cons.inj e).1), if_neg (fun e => h (Option.some.inj e))]
theorem codeD_len (s : List UInt8) : (codeD s).length ≤ s.length := by
  unfold codeD
  split
  · rw [List.length_drop]; omega
  · exact Nat.le_refl _
def codV (p : Int × Bool) : Value := .tuple #[.int .i64 p.1, .bool p.2]
theorem codeF_no {s : List UInt8} (h : ¬ (1 ≤ (codeD s).length ∧ (codeD s).length ≤ 9 ∧ (codeD s).all digitB = true)) : codeF s = (0, false) := by
  unfold codeF
  rw [if_neg]
  intro hk
  unfold codeOk at hk
  rw [Bool.and_eq_true, Bool.and_eq_true, decide_eq_true_eq, decide_eq_true_eq] at hk
  exact h ⟨hk.1.1, hk.1.2, hk.2⟩
theorem Code_c (w : World) (s : List UInt8) (hs : s.length ≤ 1000000) :
    Calls Tryd.prog 12 [.string (bs s)].toArray w (fun e w' => e = .returned (codV (codeF s)) ∧ Ext [] w w') := by
  have hdl := codeD_len s
  refine calls (n := 27) Tryd.func12 rfl Tryd.ntmps12 rfl ?_
  refine CW.sub (H' := SH w [] []) ?_ (Sub.refl _) (fun x hx => SH.start' _ _ hx)
  refine CW.seq (CW.region ?_)
  refine RW.assign rfl rfl ?_
  refine RW.assign rfl rfl ?_
  refine RW.nil (EX.seq (CW.seq ?_))
  -- mq: region
  refine CW.region ?_
  refine RW.move rfl rfl ?_
  refine RW.call (v := .string (bs (codeD s))) rfl ca30 rfl (fun w' _ => by have h := trimPrefix_c w' s [45] (by omega) (by decide); rw [trim_codeD] at h; exact h) ?_
  refine RW.assign rfl rfl ?_
  refine RW.nil (EX.seq (CW.seq (CW.seq ?_)))
  -- mq: region
  refine CW.region ?_
  refine RW.move rfl rfl ?_
  refine RW.eqlS rfl rfl rfl ?_
  refine RW.move rfl rfl ?_
  -- mq: guard slot 11
  refine RW.casesB 11 rfl (fun h1 => ?_) (fun h1 => ?_)
  · skip
    have h1p := of_decide_eq_true h1
    refine RW.guardF rfl rfl rfl h1 ?_
    refine RW.guardF rfl rfl rfl h1 ?_
    refine RW.guardF rfl rfl rfl h1 ?_
    refine RW.pickB rfl rfl h1 rfl ?_
    refine RW.move rfl rfl ?_
    refine RW.guardF rfl rfl rfl rfl ?_
    refine RW.guardF rfl rfl rfl rfl ?_
    refine RW.guardF rfl rfl rfl rfl ?_
    refine RW.pickB rfl rfl rfl rfl ?_
    refine RW.nil (EX.seq ?_)
    -- mq: cond
    -- mq: cond
    refine CW.condT rfl (rfl) ?_
    refine CW.seq (CW.region ?_)
    refine RW.assign rfl rfl ?_
    refine RW.assign rfl rfl ?_
    refine RW.nil (EX.seq (CW.ret (EX.seqR ?_)))
    refine EX.fin2 Tryd.results12 rfl rfl (fun wz hw => ?_)
    -- mq: done
    exact ⟨by rw [codeF_no (by rw [h1p]; simp)]; rfl, hw.ext⟩
  · skip
    have h1p := of_decide_eq_false h1
    refine RW.guardT rfl rfl h1 ?_
    refine RW.move rfl rfl ?_
    refine RW.guardT rfl rfl h1 ?_
    refine RW.lenS Tryd.underlying9 rfl rfl ?_
    refine RW.guardT rfl rfl h1 ?_
    refine RW.gtr rfl rfl rfl ?_
    refine RW.pickC rfl rfl h1 rfl ?_
    refine RW.move rfl rfl ?_
    -- mq: guard slot 16
    refine RW.casesB 16 rfl (fun h2 => ?_) (fun h2 => ?_)
    · skip
      have h2p := of_decide_eq_true h2
      refine RW.guardF rfl rfl rfl h2 ?_
      refine RW.guardF rfl rfl rfl h2 ?_
      refine RW.guardF rfl rfl rfl h2 ?_
      refine RW.pickB rfl rfl h2 rfl ?_
      refine RW.nil (EX.seq ?_)
      -- mq: cond
      refine CW.condT rfl (rfl) ?_
      refine CW.seq (CW.region ?_)
      refine RW.assign rfl rfl ?_
      refine RW.assign rfl rfl ?_
      refine RW.nil (EX.seq (CW.ret (EX.seqR ?_)))
      refine EX.fin2 Tryd.results12 rfl rfl (fun wz hw => ?_)
      -- mq: done
      exact ⟨by rw [codeF_no (by omega)]; rfl, hw.ext⟩
    · skip
      have h2p := of_decide_eq_false h2
      refine RW.guardT rfl rfl h2 ?_
      refine RW.move rfl rfl ?_
      refine RW.guardT rfl rfl h2 ?_
      -- mq: op 9: ('Op.call', ('Call.mk', ('Callee.value', ('Operand.func', '31')), ('arr', ('Operand.tmp', '17'), ('Operand.func', '32')), ('arr', '9', '51'))) -> slot 18 ("osc.go:51")
      refine RW.callA (R := fun _ v _ => ∃ n : Int, v = .int .i64 n ∧ decide (0 ≤ n) = !(codeD s).all digitB) rfl ca31 rfl (fun w' _ => (indexDig_c w' (codeD s)).mono (fun e w'' h => by obtain ⟨n, h1, h2, h3⟩ := h; exact ⟨_, h1, h3, n, rfl, h2⟩)) (fun w1 w2 v hw1 he12 hw2 hlt2 hv => ?_)
      obtain ⟨n, rfl, hn⟩ := hv
      have hx12 : Ext [] w w2 := hw1.ext.trans0 he12
      refine RW.guardT rfl rfl h2 ?_
      refine RW.geq rfl rfl rfl ?_
      refine RW.pickC rfl rfl h2 rfl ?_
      refine RW.nil (EX.seq ?_)
      -- mq: cond
      first | refine CW.condD rfl (fun h3 => ?_) (fun h3 => ?_) | refine CW.cond rfl (fun h3 => ?_) (fun h3 => ?_)
      · skip
        refine CW.seq (CW.region ?_)
        refine RW.assign rfl rfl ?_
        refine RW.assign rfl rfl ?_
        refine RW.nil (EX.seq (CW.ret (EX.seqR ?_)))
        refine EX.fin2 Tryd.results12 rfl rfl (fun wz hw => ?_)
        -- mq: done
        rw [decide_eq_true (show 0 ≤ n by omega)] at hn
        exact ⟨by rw [codeF_no (fun h => by rw [h.2.2] at hn; cases hn)]; rfl, hx12.trans0 hw.ext⟩
      · skip
        rw [decide_eq_false (show ¬ 0 ≤ n by omega)] at hn
        have hok : codeOk s = true := by
          unfold codeOk
          have hd1 : 1 ≤ (codeD s).length := List.length_pos_iff.2 h1p
          rw [decide_eq_true hd1, decide_eq_true (show (codeD s).length ≤ 9 by omega)]
          cases hb : (codeD s).all digitB with
          | true => rfl
          | false => rw [hb] at hn; cases hn
        refine CW.skip (EX.seq (CW.seq (CW.region ?_)))
        refine RW.move rfl rfl ?_
        refine RW.call (v := .tuple #[.int .i64 (codeF s).1, .nilIface]) rfl caAto rfl (fun w' _ => atoiOk_c w' s _ hs (atoi_code hok)) ?_
        refine RW.move rfl rfl ?_
        refine RW.extract rfl rfl rfl ?_
        refine RW.extract rfl rfl rfl ?_
        refine RW.assign rfl rfl ?_
        refine RW.assign rfl rfl ?_
        refine RW.nil (EX.seq (CW.seq (CW.region ?_)))
        refine RW.move rfl rfl ?_
        refine RW.assign rfl rfl ?_
        refine RW.assign rfl rfl ?_
        refine RW.nil (EX.seq (CW.ret ?_))
        refine EX.fin2 Tryd.results12 rfl rfl (fun wz hw => ?_)
        -- mq: done
        exact ⟨by rw [show codeF s = ((codeF s).1, true) by unfold codeF; rw [if_pos hok]]; rfl, hx12.trans0 hw.ext⟩
theorem hexLen2 (a b : UInt8) : [a, b].length = 2 := rfl
def hexV2 (a b : UInt8) : Value → Prop := fun v => ∃ n : Nat, v = .tuple #[.int .u8 (n : Int), .bool (decide (0 ≤ hexI a) && decide (0 ≤ hexI b))] ∧ (0 ≤ hexI a → 0 ≤ hexI b → (n : Int) = (twoU a b).toNat)
theorem hexI_43 : hexI 43 = -1 := by decide
theorem hexI_95 : hexI 95 = -1 := by decide
theorem oscHex_c (w : World) (hg : Ge w) (a b : UInt8) : Calls Tryd.prog 35 [.string (bs [a, b])].toArray w (RetA (fun v _ => hexV2 a b v) w) := by
  have ha8 := UInt8.toNat_lt a
  have hb8 := UInt8.toNat_lt b
  refine calls (n := 30) Tryd.func35 rfl Tryd.ntmps35 rfl ?_
  refine CW.sub (H' := SH w [] []) ?_ (Sub.refl _) (fun x hx => SH.start' _ _ hx)
  refine CW.seq (CW.region ?_)
  refine RW.assign rfl rfl ?_
  refine RW.assign rfl rfl ?_
  refine RW.nil (EX.seq (CW.seq ?_))
  -- mq: region
  refine CW.region ?_
  refine RW.move rfl rfl ?_
  -- mq: at
  refine RW.callA (R := fun _ v _ => IsPu2 a b v) rfl ca53 rfl (fun w' hw' => pu16_c w' (hg.ext hw'.ext) a b) (fun w1 w2 v hw1 he12 hw2 hlt2 hv => ?_)
  have hx12 : Ext [] w w2 := hw1.ext.trans0 he12
  rcases hv with ⟨y, z, hy, hz, hya, hzb, rfl⟩ | ⟨hno, x, t, p, rfl⟩
  · skip
    refine RW.move rfl rfl ?_
    refine RW.extract rfl rfl rfl ?_
    refine RW.extract rfl rfl rfl ?_
    refine RW.assign rfl rfl ?_
    refine RW.assign rfl rfl ?_
    refine RW.nil (EX.seq (CW.seq ?_))
    -- mq: region
    have na1 : (a.toNat : Int) ≠ 43 := fun e => by
      have : a = 43 := UInt8.toNat_inj.1 (by have : (43 : UInt8).toNat = 43 := rfl; omega)
      rw [this, hexI_43] at hya; omega
    have na2 : (a.toNat : Int) ≠ 95 := fun e => by
      have : a = 95 := UInt8.toNat_inj.1 (by have : (95 : UInt8).toNat = 95 := rfl; omega)
      rw [this, hexI_95] at hya; omega
    have nb2 : (b.toNat : Int) ≠ 95 := fun e => by
      have : b = 95 := UInt8.toNat_inj.1 (by have : (95 : UInt8).toNat = 95 := rfl; omega)
      rw [this, hexI_95] at hzb; omega
    refine CW.drawU [0, 1, 2, 3, 4, 5, 6, 7, 8, 9, 10, 11, 12, 13, 14, 15, 16, 17, 18, 19, 20] 0 [[]] (fun _ => True) mixed (by kernel_rfl) (fun _ hw => hw.drew) (fun _ h => (by first | trivial | exact h | exact h.ch | exact (h.rem Rem.head).ch | exact ((h.rem Rem.head).rem Rem.head).ch | exact (((h.rem Rem.head).rem Rem.head).rem Rem.head).ch)) ?_
    refine QuP.cons rfl (fun wq hq => (RW.move rfl rfl RW.jn)) ?_
    refine QuP.cons rfl (fun wq hq => (RW.convI (r := ((16 * y + z : Nat) : Int)) rfl rfl Tryd.underlying70 Tryd.underlying5 (by rw [IntKind.wrap_u8]; omega) RW.jn)) ?_
    refine QuP.cons rfl (fun wq hq => (RW.move rfl rfl RW.jn)) ?_
    refine QuP.cons rfl (fun wq hq => (RW.eqlNil (by kernel_rfl) rfl rfl RW.jn)) ?_
    refine QuP.cons rfl (fun wq hq => (RW.move rfl rfl RW.jn)) ?_
    refine QuP.cons rfl (fun wq hq => RW.guardT rfl rfl (rfl) (RW.move rfl rfl RW.jn)) ?_
    refine QuP.cons rfl (fun wq hq => RW.guardT rfl rfl (rfl) (RW.ixStr (q := 0) Tryd.underlying9 rfl rfl rfl (by rfl) (rfl : [a, b][0]? = some a) RW.jn)) ?_
    refine QuP.cons rfl (fun wq hq => RW.guardT rfl rfl (rfl) (RW.neqI rfl rfl rfl RW.jn)) ?_
    refine QuP.cons rfl (fun wq hq => (RW.pickB rfl rfl rfl rfl RW.jn)) ?_
    refine QuP.cons rfl (fun wq hq => (RW.move rfl rfl RW.jn)) ?_
    refine QuP.cons rfl (fun wq hq => RW.guardT rfl rfl ((decide_eq_true na1)) (RW.move rfl rfl RW.jn)) ?_
    refine QuP.cons rfl (fun wq hq => RW.guardT rfl rfl ((decide_eq_true na1)) (RW.ixStr (q := 0) Tryd.underlying9 rfl rfl rfl (by rfl) (rfl : [a, b][0]? = some a) RW.jn)) ?_
    refine QuP.cons rfl (fun wq hq => RW.guardT rfl rfl ((decide_eq_true na1)) (RW.neqI rfl rfl rfl RW.jn)) ?_
    refine QuP.cons rfl (fun wq hq => (RW.pickB rfl rfl (decide_eq_true na1) rfl RW.jn)) ?_
    refine QuP.cons rfl (fun wq hq => (RW.move rfl rfl RW.jn)) ?_
    refine QuP.cons rfl (fun wq hq => RW.guardT rfl rfl ((decide_eq_true na2)) (RW.move rfl rfl RW.jn)) ?_
    refine QuP.cons rfl (fun wq hq => RW.guardT rfl rfl ((decide_eq_true na2)) (RW.ixStr (q := 1) Tryd.underlying9 rfl rfl rfl (by rfl) (rfl : [a, b][1]? = some b) RW.jn)) ?_
    refine QuP.cons rfl (fun wq hq => RW.guardT rfl rfl ((decide_eq_true na2)) (RW.neqI rfl rfl rfl RW.jn)) ?_
    refine QuP.cons rfl (fun wq hq => (RW.pickB rfl rfl (decide_eq_true na2) rfl RW.jn)) ?_
    refine QuP.cons rfl (fun wq hq => (RW.assign rfl rfl RW.jn)) ?_
    refine QuP.cons rfl (fun wq hq => (RW.assign rfl rfl RW.jn)) ?_
    refine QuP.nil ?_
    refine UW.nil (EX.seq (CW.ret ?_))
    refine EX.fin2 Tryd.results35 rfl rfl (fun wz hw => ?_)
    -- mq: done
    refine ⟨_, rfl, hx12.trans0 hw.ext, 16 * y + z, ?_, fun _ _ => ?_⟩
    · rw [decide_eq_true nb2, hya, hzb, decide_eq_true (show (0 : Int) ≤ (y : Int) by omega), decide_eq_true (show (0 : Int) ≤ (z : Int) by omega)]; rfl
    · unfold twoU
      rw [hya, hzb, UInt8.toNat_ofNat']
      omega
  · skip
    refine RW.move rfl rfl ?_
    refine RW.extract rfl rfl rfl ?_
    refine RW.extract rfl rfl rfl ?_
    refine RW.assign rfl rfl ?_
    refine RW.assign rfl rfl ?_
    refine RW.nil (EX.seq (CW.seq ?_))
    -- mq: region
    refine CW.drawU [0, 1, 2, 3, 4, 5, 6, 7, 8, 9, 10, 11, 12, 13, 14, 15, 16, 17, 18, 19, 20] 0 [[]] (fun _ => True) mixed (by kernel_rfl) (fun _ hw => hw.drew) (fun _ h => (by first | trivial | exact h | exact h.ch | exact (h.rem Rem.head).ch | exact ((h.rem Rem.head).rem Rem.head).ch | exact (((h.rem Rem.head).rem Rem.head).rem Rem.head).ch)) ?_
    refine QuP.cons rfl (fun wq hq => (RW.move rfl rfl RW.jn)) ?_
    refine QuP.cons rfl (fun wq hq => (RW.convI (r := ((x % 256 : Nat) : Int)) rfl rfl Tryd.underlying70 Tryd.underlying5 (by rw [IntKind.wrap_u8]; omega) RW.jn)) ?_
    refine QuP.cons rfl (fun wq hq => (RW.move rfl rfl RW.jn)) ?_
    refine QuP.cons rfl (fun wq hq => (RW.eqlErr (by kernel_rfl) rfl rfl RW.jn)) ?_
    refine QuP.cons rfl (fun wq hq => (RW.move rfl rfl RW.jn)) ?_
    refine QuP.cons rfl (fun wq hq => RW.guardF rfl rfl rfl (rfl) RW.jn) ?_
    refine QuP.cons rfl (fun wq hq => RW.guardF rfl rfl rfl (rfl) RW.jn) ?_
    refine QuP.cons rfl (fun wq hq => RW.guardF rfl rfl rfl (rfl) RW.jn) ?_
    refine QuP.cons rfl (fun wq hq => (RW.pickC rfl rfl rfl rfl RW.jn)) ?_
    refine QuP.cons rfl (fun wq hq => (RW.move rfl rfl RW.jn)) ?_
    refine QuP.cons rfl (fun wq hq => RW.guardF rfl rfl rfl (rfl) RW.jn) ?_
    refine QuP.cons rfl (fun wq hq => RW.guardF rfl rfl rfl (rfl) RW.jn) ?_
    refine QuP.cons rfl (fun wq hq => RW.guardF rfl rfl rfl (rfl) RW.jn) ?_
    refine QuP.cons rfl (fun wq hq => (RW.pickC rfl rfl rfl rfl RW.jn)) ?_
    refine QuP.cons rfl (fun wq hq => (RW.move rfl rfl RW.jn)) ?_
    refine QuP.cons rfl (fun wq hq => RW.guardF rfl rfl rfl (rfl) RW.jn) ?_
    refine QuP.cons rfl (fun wq hq => RW.guardF rfl rfl rfl (rfl) RW.jn) ?_
    refine QuP.cons rfl (fun wq hq => RW.guardF rfl rfl rfl (rfl) RW.jn) ?_
    refine QuP.cons rfl (fun wq hq => (RW.pickC rfl rfl rfl rfl RW.jn)) ?_
    refine QuP.cons rfl (fun wq hq => (RW.assign rfl rfl RW.jn)) ?_
    refine QuP.cons rfl (fun wq hq => (RW.assign rfl rfl RW.jn)) ?_
    refine QuP.nil ?_
    refine UW.nil (EX.seq (CW.ret ?_))
    refine EX.fin2 Tryd.results35 rfl rfl (fun wz hw => ?_)
    -- mq: done
    refine ⟨_, rfl, hx12.trans0 hw.ext, x % 256, ?_, fun h1 h2 => ?_⟩
    · have : (decide (0 ≤ hexI a) && decide (0 ≤ hexI b)) = false := by
        rcases hno with h | h
        · rw [h]; rfl
        · rw [h, Bool.and_comm]; rfl
      rw [this]
    · rcases hno with h | h <;> omega
end Go.Proofs.YtemcblinkicblaaDoor.Mq
