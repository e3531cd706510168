/- walks: head, the closures of Parse, Parse -/
import Derived.Test.YtjplfonmdjnplaaDoorPm1
import Derived.Laws.RangeAny
namespace Go.Proofs.YtjplfonmdjnplaaDoor.Mq
open Go Go.RowKit Go.Proofs

def rnG : Shelf.Ren := ⟨fun | 15 => 52 | 20 => 58 | n => n, fun | 0 => 0 | 3 => 3 | 4 => 4 | 9 => 9 | 21 => 21 | 23 => 79 | n => n, fun n => n⟩
theorem laysIF : LaysGw.n15 Tryd.prog rnG where
  mixed := by kernel_rfl
  f15 := Tryd.func52.trans (congrArg some (by kernel_rfl))
  f20 := Tryd.func58.trans (congrArg some (by kernel_rfl))
  t0 := Tryd.underlying0
  a0 := Tryd.isAgg0
  z0 := Tryd.sizeOf0
  v0 := Tryd.zeroValue0
  i0 := by kernel_rfl
  t3 := Tryd.underlying3
  a3 := Tryd.isAgg3
  z3 := Tryd.sizeOf3
  v3 := Tryd.zeroValue3
  i3 := by kernel_rfl
  t4 := Tryd.underlying4
  a4 := Tryd.isAgg4
  z4 := Tryd.sizeOf4
  v4 := Tryd.zeroValue4
  i4 := by kernel_rfl
  t9 := Tryd.underlying9
  a9 := Tryd.isAgg9
  z9 := Tryd.sizeOf9
  v9 := Tryd.zeroValue9
  i9 := by kernel_rfl
  t21 := Tryd.underlying21
  a21 := Tryd.isAgg21
  z21 := Tryd.sizeOf21
  v21 := Tryd.zeroValue21
  i21 := by kernel_rfl
  t23 := Tryd.underlying79
  a23 := Tryd.isAgg79
  z23 := Tryd.sizeOf79
  v23 := Tryd.zeroValue79
  i23 := by kernel_rfl
theorem caH1 : CaT Tryd.prog 53 := CaT.of Tryd.func53 (by kernel_rfl) (by kernel_rfl)
theorem head1_c (w : World) (r : Nat) :
    Calls Tryd.prog 53 [.int .i32 (r : Int)].toArray w (fun e w' => e = .returned (.bool (!inHead r)) ∧ w' = w) := by
  refine calls (n := 17) Tryd.func53 rfl Tryd.ntmps53 rfl ?_
  refine CW.seq (CW.region ?_)
  refine RW.assign rfl rfl ?_
  refine RW.nil (EX.seq (CW.seq (CW.region ?_)))
  refine RW.move rfl rfl ?_
  refine RW.lss rfl rfl rfl ?_
  refine RW.move rfl rfl ?_
  -- mq: guard slot 5
  refine RW.casesB 5 rfl (fun h5 => ?_) (fun h5 => ?_)
  · skip
    have h5p := of_decide_eq_true h5
    refine RW.guardF rfl rfl rfl h5 ?_
    refine RW.guardF rfl rfl rfl h5 ?_
    refine RW.pickB rfl rfl h5 rfl ?_
    refine RW.move rfl rfl ?_
    refine RW.guardT rfl rfl rfl ?_
    refine RW.move rfl rfl ?_
    refine RW.guardT rfl rfl rfl ?_
    refine RW.neqI rfl rfl rfl ?_
    refine RW.pickB rfl rfl rfl rfl ?_
    refine RW.move rfl rfl ?_
    -- mq: guard slot 13
    -- mq: guard slot 13
    refine RW.casesB 13 rfl (fun h13 => ?_) (fun h13 => ?_)
    · skip
      have h13p := of_decide_eq_true h13
      refine RW.guardT rfl rfl h13 ?_
      refine RW.move rfl rfl ?_
      refine RW.guardT rfl rfl h13 ?_
      refine RW.neqI rfl rfl rfl ?_
      refine RW.pickB rfl rfl h13 rfl ?_
      refine RW.assign rfl rfl ?_
      refine RW.nil (EX.seq (CW.ret ?_))
      refine EX.fin1 Tryd.results53 rfl (fun wz hw => ?_)
      -- mq: done
      refine ⟨?_, hw⟩
      have : inHead r = false := by simp [inHead]; omega
      rw [this, decide_eq_true (by omega)]; rfl
    · skip
      have h13p := of_decide_eq_false h13
      refine RW.guardF rfl rfl rfl h13 ?_
      refine RW.guardF rfl rfl rfl h13 ?_
      refine RW.pickC rfl rfl h13 rfl ?_
      refine RW.assign rfl rfl ?_
      refine RW.nil (EX.seq (CW.ret ?_))
      refine EX.fin1 Tryd.results53 rfl (fun wz hw => ?_)
      -- mq: done
      exact absurd h13p (by omega)
  · skip
    have h5p := of_decide_eq_false h5
    refine RW.guardT rfl rfl h5 ?_
    refine RW.move rfl rfl ?_
    refine RW.guardT rfl rfl h5 ?_
    refine RW.gtr rfl rfl rfl ?_
    refine RW.pickC rfl rfl h5 rfl ?_
    refine RW.move rfl rfl ?_
    -- mq: guard slot 9
    refine RW.casesB 9 rfl (fun h9 => ?_) (fun h9 => ?_)
    · skip
      have h9p := of_decide_eq_true h9
      refine RW.guardT rfl rfl h9 ?_
      refine RW.move rfl rfl ?_
      refine RW.guardT rfl rfl h9 ?_
      refine RW.neqI rfl rfl rfl ?_
      refine RW.pickB rfl rfl h9 rfl ?_
      refine RW.move rfl rfl ?_
      -- mq: guard slot 13
      refine RW.casesB 13 rfl (fun h13 => ?_) (fun h13 => ?_)
      · skip
        have h13p := of_decide_eq_true h13
        refine RW.guardT rfl rfl h13 ?_
        refine RW.move rfl rfl ?_
        refine RW.guardT rfl rfl h13 ?_
        refine RW.neqI rfl rfl rfl ?_
        refine RW.pickB rfl rfl h13 rfl ?_
        refine RW.assign rfl rfl ?_
        refine RW.nil (EX.seq (CW.ret ?_))
        refine EX.fin1 Tryd.results53 rfl (fun wz hw => ?_)
        -- mq: done
        refine ⟨?_, hw⟩
        by_cases h58 : (r : Int) = 58
        · have : inHead r = true := by simp [inHead]; omega
          rw [this, decide_eq_false (by omega)]; rfl
        · have : inHead r = false := by simp [inHead]; omega
          rw [this, decide_eq_true h58]; rfl
      · skip
        have h13p := of_decide_eq_false h13
        refine RW.guardF rfl rfl rfl h13 ?_
        refine RW.guardF rfl rfl rfl h13 ?_
        refine RW.pickC rfl rfl h13 rfl ?_
        refine RW.assign rfl rfl ?_
        refine RW.nil (EX.seq (CW.ret ?_))
        refine EX.fin1 Tryd.results53 rfl (fun wz hw => ?_)
        -- mq: done
        have : inHead r = true := by simp [inHead]; omega
        exact ⟨by rw [this]; rfl, hw⟩
    · skip
      have h9p := of_decide_eq_false h9
      refine RW.guardF rfl rfl rfl h9 ?_
      refine RW.guardF rfl rfl rfl h9 ?_
      refine RW.pickC rfl rfl h9 rfl ?_
      refine RW.move rfl rfl ?_
      refine RW.guardF rfl rfl rfl rfl ?_
      refine RW.guardF rfl rfl rfl rfl ?_
      refine RW.pickC rfl rfl rfl rfl ?_
      refine RW.assign rfl rfl ?_
      refine RW.nil (EX.seq (CW.ret ?_))
      refine EX.fin1 Tryd.results53 rfl (fun wz hw => ?_)
      -- mq: done
      have : inHead r = true := by simp [inHead]; omega
      exact ⟨by rw [this]; rfl, hw⟩
theorem idx_head (s : List UInt8) : ∀ (f pos : Nat), s.length ≤ f + pos → (Lib.idxFuncFrom (fun r => !inHead r) true (bs s) f pos < 0 ↔ ∀ (j : Nat) (c : UInt8), pos ≤ j → s[j]? = some c → inHead c.toNat = true)
  | 0, pos, h => by
    constructor
    · intro _ j c hj hc
      have := (List.getElem?_eq_some_iff.1 hc).1
      omega
    · intro _; simp [Lib.idxFuncFrom]
  | f + 1, pos, h => by
    unfold Lib.idxFuncFrom
    rw [bs_size]
    by_cases hp : pos < s.length
    · rw [if_pos hp]
      have hp' : pos < (bs s).size := by rw [bs_size]; exact hp
      have hb : (bs s)[pos]'hp' = s[pos] := by simp [bs, ByteArray.getElem_eq_getElem_data]
      by_cases ha : (s[pos]).toNat < 128
      · have hd := decode_ascii (bs s) pos hp' (by rw [hb]; exact ha)
        rw [hb] at hd
        rw [hd]
        dsimp only
        by_cases hin : inHead (s[pos]).toNat = true
        · rw [if_neg (by simp [hin]), idx_head s f (pos + 1) (by omega)]
          constructor
          · intro hall j c hj hc
            by_cases hjp : j = pos
            · subst hjp
              rw [List.getElem?_eq_getElem hp] at hc
              simp only [Option.some.injEq] at hc
              rw [← hc]; exact hin
            · exact hall j c (by omega) hc
          · intro hall j c hj hc
            exact hall j c (by omega) hc
        · rw [if_pos (by simp [hin])]
          constructor
          · intro hneg; omega
          · intro hall
            exact absurd (hall pos s[pos] (Nat.le_refl _) (List.getElem?_eq_getElem hp)) hin
      · have hd := decode_high (bs s) pos hp' (by rw [hb]; omega)
        have hnin : ∀ r, 128 ≤ r → inHead r = false := fun r hr => by simp [inHead]; omega
        rw [if_pos (by simp [hnin _ hd.1])]
        constructor
        · intro hneg; omega
        · intro hall
          have := hall pos s[pos] (Nat.le_refl _) (List.getElem?_eq_getElem hp)
          rw [hnin _ (by omega)] at this
          cases this
    · rw [if_neg hp]
      constructor
      · intro _ j c hj hc
        have := (List.getElem?_eq_some_iff.1 hc).1
        omega
      · intro _; omega
theorem head_c (w : World) (s : List UInt8) :
    Calls Tryd.prog 41 [.string (bs s)].toArray w (fun e w' => e = .returned (.bool (headB s)) ∧ Ext [] w w') := by
  have hI : ∀ w', Calls Tryd.prog 52 [.string (bs s), .func (.func 53) #[] #[]].toArray w' (fun e w'' => e = .returned (.int .i64 (Lib.idxFunc (fun r => !inHead r) true (bs s))) ∧ Ext [] w' w'') := fun w' => by
    refine Calls.mono (Any.strings_IndexFunc laysIF 53 #[] (fun args w => run_callFunc caH1 args w) (fun r => !inHead r) (bs s) w' (fun W x _ => ?_)) (fun e w'' h => ⟨h.1, Ext.of_below h.2⟩)
    refine Calls.mono (head1_c W x) (fun e w'' h => ⟨h.1, 0, ?_⟩)
    rw [h.2]; rfl
  have hh : decide (Lib.idxFunc (fun r => !inHead r) true (bs s) < 0) = headB s := by
    have := idx_head s s.length 0 (by omega)
    rw [Lib.idxFunc, bs_size]
    rw [Bool.eq_iff_iff, decide_eq_true_iff, this, headB, List.all_eq_true]
    constructor
    · intro h c hc
      obtain ⟨j, hj⟩ := List.getElem?_of_mem hc
      exact h j c (Nat.zero_le _) hj
    · intro h j c _ hc
      exact h c (List.mem_of_getElem? hc)
  refine calls (n := 6) Tryd.func41 rfl Tryd.ntmps41 rfl ?_
  refine CW.sub (H' := SH w [] []) ?_ (Sub.refl _) (fun x hx => SH.start' _ _ hx)
  refine CW.seq (CW.region ?_)
  refine RW.assign rfl rfl ?_
  refine RW.nil (EX.seq (CW.seq (CW.region ?_)))
  refine RW.move rfl rfl ?_
  -- mq: op 1: ('Op.call', ('Call.mk', ('Callee.value', ('Operand.func', '52')), ('arr', ('Operand.tmp', '3'), ('Operand.func', '53')), ('arr', '9', '79'))) -> slot 4 ("param.go:16")
  refine RW.call rfl ca52 rfl (fun w' _ => hI w') ?_
  refine RW.lss rfl rfl rfl ?_
  refine RW.assign rfl rfl ?_
  refine RW.nil (EX.seq (CW.ret ?_))
  refine EX.fin1 Tryd.results41 rfl (fun wz hw => ?_)
  -- mq: done
  exact ⟨by rw [hh], hw.ext⟩
end Go.Proofs.YtjplfonmdjnplaaDoor.Mq
