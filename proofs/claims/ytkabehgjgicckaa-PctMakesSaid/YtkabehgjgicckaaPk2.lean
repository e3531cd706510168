/- walks: plain, code, what Lay and lower make of a byte -/
import Derived.Test.YtkabehgjgicckaaPk1
import Derived.Test.YtkabehgjgicckaaLaws
namespace Go.Proofs.Ytkabehgjgicckaa.Mq
open Go Go.RowKit Go.Proofs

theorem caSl : CaT Try.prog 28 := CaT.of Try.func28 (by kernel_rfl) (by kernel_rfl)
theorem slIndexByte_c (w : World) (s : List UInt8) (c : UInt8) :
    Calls Try.prog 28 [.string (bs s), .int .u8 (c.toNat : Int)].toArray w (fun e w' => e = .returned (.int .i64 (Lib.indexByte s c)) ∧ w' = w) := by
  refine calls (n := 8) Try.func28 rfl Try.ntmps28 rfl ?_
  refine CW.seq (CW.region ?_)
  refine RW.assign rfl rfl ?_
  refine RW.nil (EX.seq (CW.seq (CW.region ?_)))
  refine RW.move rfl rfl ?_
  refine RW.move rfl rfl ?_
  -- mq: op 2: ('Op.call', ('Call.mk', ('Callee.value', ('Operand.func', '33')), ('arr', ('Operand.tmp', '5'), ('Operand.tmp', '6')), ('arr', '9', '5'))) -> slot 7 ("strings.go:25")
  refine RW.ext1 rfl rfl (fun w'' _ => indexByte_run Try.func33 (by kernel_rfl) (by kernel_rfl) (by kernel_rfl) (by kernel_rfl) s c w'') ?_
  refine RW.assign rfl rfl ?_
  refine RW.nil (EX.seq (CW.ret ?_))
  refine EX.fin1 Try.results28 rfl (fun wz hw => ?_)
  -- mq: done
  exact ⟨rfl, hw⟩
theorem IndexByte_c (w : World) (s : List UInt8) (c : UInt8) :
    Calls Try.prog 18 [.string (bs s), .int .u8 (c.toNat : Int)].toArray w (fun e w' => e = .returned (.int .i64 (Lib.indexByte s c)) ∧ w' = w) := by
  refine calls (n := 8) Try.func18 rfl Try.ntmps18 rfl ?_
  refine CW.seq (CW.region ?_)
  refine RW.assign rfl rfl ?_
  refine RW.nil (EX.seq (CW.seq (CW.region ?_)))
  refine RW.move rfl rfl ?_
  refine RW.move rfl rfl ?_
  -- mq: op 2: ('Op.call', ('Call.mk', ('Callee.value', ('Operand.func', '28')), ('arr', ('Operand.tmp', '5'), ('Operand.tmp', '6')), ('arr', '9', '5'))) -> slot 7 ("strings.go:103")
  refine RW.callP rfl caSl rfl (fun w' _ => slIndexByte_c w' s c) ?_
  refine RW.assign rfl rfl ?_
  refine RW.nil (EX.seq (CW.ret ?_))
  refine EX.fin1 Try.results18 rfl (fun wz hw => ?_)
  -- mq: done
  exact ⟨rfl, hw⟩
theorem plain_c (w : World) (c : UInt8) :
    Calls Try.prog 21 [.int .u8 (c.toNat : Int)].toArray w (fun e w' => e = .returned (.bool (plainB c)) ∧ w' = w) := by
  refine calls (n := 18) Try.func21 rfl Try.ntmps21 rfl ?_
  refine CW.seq (CW.region ?_)
  refine RW.assign rfl rfl ?_
  refine RW.nil (EX.seq (CW.seq (CW.region ?_)))
  refine RW.move rfl rfl ?_
  -- mq: op 1: ('Op.call', ('Call.mk', ('Callee.value', ('Operand.func', '27')), ('arr', ('Operand.tmp', '3'), ('Operand.const', ('Value.int', 'IntKind.u8', '97')), ('Operand.const', ('Value.int', 'IntKind.u8', '122'))), ('arr', '5', '5', '5'))) -> slot 4 ("pct.go:21")
  refine RW.callP rfl ca27 rfl (fun w' _ => between_c w' c 97 122) ?_
  refine RW.move rfl rfl ?_
  -- mq: guard slot 5
  refine RW.casesB 5 rfl (fun h1 => ?_) (fun h1 => ?_)
  · skip
    refine RW.guardF rfl rfl rfl h1 ?_
    refine RW.guardF rfl rfl rfl h1 ?_
    refine RW.pickB rfl rfl h1 rfl ?_
    refine RW.move rfl rfl ?_
    refine RW.guardF rfl rfl rfl rfl ?_
    refine RW.guardF rfl rfl rfl rfl ?_
    refine RW.pickB rfl rfl rfl rfl ?_
    refine RW.move rfl rfl ?_
    refine RW.guardF rfl rfl rfl rfl ?_
    refine RW.guardF rfl rfl rfl rfl ?_
    refine RW.guardF rfl rfl rfl rfl ?_
    refine RW.pickB rfl rfl rfl rfl ?_
    refine RW.assign rfl rfl ?_
    refine RW.nil (EX.seq (CW.ret ?_))
    refine EX.fin1 Try.results21 rfl (fun wz hw => ?_)
    -- mq: done
    exact ⟨by rw [plainB, h1]; rfl, hw⟩
  · skip
    refine RW.guardT rfl rfl h1 ?_
    refine RW.move rfl rfl ?_
    refine RW.guardT rfl rfl h1 ?_
    -- mq: op 4: ('Op.call', ('Call.mk', ('Callee.value', ('Operand.func', '27')), ('arr', ('Operand.tmp', '6'), ('Operand.const', ('Value.int', 'IntKind.u8', '65')), ('Operand.const', ('Value.int', 'IntKind.u8', '90'))), ('arr', '5', '5', '5'))) -> slot 7 ("pct.go:21")
    refine RW.callP rfl ca27 rfl (fun w' _ => between_c w' c 65 90) ?_
    refine RW.pickC rfl rfl h1 rfl ?_
    refine RW.move rfl rfl ?_
    -- mq: guard slot 9
    refine RW.casesB 9 rfl (fun h2 => ?_) (fun h2 => ?_)
    · skip
      refine RW.guardF rfl rfl rfl h2 ?_
      refine RW.guardF rfl rfl rfl h2 ?_
      refine RW.pickB rfl rfl h2 rfl ?_
      refine RW.move rfl rfl ?_
      refine RW.guardF rfl rfl rfl rfl ?_
      refine RW.guardF rfl rfl rfl rfl ?_
      refine RW.guardF rfl rfl rfl rfl ?_
      refine RW.pickB rfl rfl rfl rfl ?_
      refine RW.assign rfl rfl ?_
      refine RW.nil (EX.seq (CW.ret ?_))
      refine EX.fin1 Try.results21 rfl (fun wz hw => ?_)
      -- mq: done
      exact ⟨by rw [plainB, h1, h2]; rfl, hw⟩
    · skip
      refine RW.guardT rfl rfl h2 ?_
      refine RW.move rfl rfl ?_
      refine RW.guardT rfl rfl h2 ?_
      -- mq: op 8: ('Op.call', ('Call.mk', ('Callee.value', ('Operand.func', '27')), ('arr', ('Operand.tmp', '10'), ('Operand.const', ('Value.int', 'IntKind.u8', '48')), ('Operand.const', ('Value.int', 'IntKind.u8', '57'))), ('arr', '5', '5', '5'))) -> slot 11 ("pct.go:21")
      refine RW.callP rfl ca27 rfl (fun w' _ => between_c w' c 48 57) ?_
      refine RW.pickC rfl rfl h2 rfl ?_
      refine RW.move rfl rfl ?_
      -- mq: guard slot 13
      refine RW.casesB 13 rfl (fun h3 => ?_) (fun h3 => ?_)
      · skip
        refine RW.guardF rfl rfl rfl h3 ?_
        refine RW.guardF rfl rfl rfl h3 ?_
        refine RW.guardF rfl rfl rfl h3 ?_
        refine RW.pickB rfl rfl h3 rfl ?_
        refine RW.assign rfl rfl ?_
        refine RW.nil (EX.seq (CW.ret ?_))
        refine EX.fin1 Try.results21 rfl (fun wz hw => ?_)
        -- mq: done
        exact ⟨by rw [plainB, h1, h2, h3]; rfl, hw⟩
      · skip
        refine RW.guardT rfl rfl h3 ?_
        refine RW.move rfl rfl ?_
        refine RW.guardT rfl rfl h3 ?_
        -- mq: op 12: ('Op.call', ('Call.mk', ('Callee.value', ('Operand.func', '18')), ('arr', ('Operand.const', ('Value.string', ('ByteArray.mk', ('arr', '45', '46', '95', '126', '47')))), ('Operand.tmp', '14')), ('arr', '9', '5'))) -> slot 15 ("pct.go:21")
        refine RW.callP rfl ca18 rfl (fun w' _ => IndexByte_c w' marks c) ?_
        refine RW.guardT rfl rfl h3 ?_
        refine RW.geq rfl rfl rfl ?_
        refine RW.pickC rfl rfl h3 rfl ?_
        refine RW.assign rfl rfl ?_
        refine RW.nil (EX.seq (CW.ret ?_))
        refine EX.fin1 Try.results21 rfl (fun wz hw => ?_)
        -- mq: done
        exact ⟨by rw [plainB, h1, h2, h3]; simp [indexByte_in], hw⟩
def codeI (a b : UInt8) : Int := IntKind.u8.wrap (((max 0 (hexI a)).toNat * 16 ||| (max 0 (hexI b)).toNat : Nat) : Int)
def codeV (s : List UInt8) (i : Nat) : Value := if i + 2 < s.length then .tuple #[.int .u8 (codeI (s.getD (i + 1) 0) (s.getD (i + 2) 0)), .bool (decide (0 ≤ hexI (s.getD (i + 1) 0)) && decide (0 ≤ hexI (s.getD (i + 2) 0)))] else .tuple #[.int .u8 0, .bool false]
theorem code_c (w : World) (s : List UInt8) (i : Nat) (hs : s.length ≤ 1000000) (hi : i < s.length) :
    Calls Try.prog 31 [.string (bs s), .int .i64 (i : Int)].toArray w (fun e w' => e = .returned (codeV s i) ∧ Ext [] w w') := by
  refine calls (n := 36) Try.func31 rfl Try.ntmps31 rfl ?_
  refine CW.sub (H' := SH w [] []) ?_ (Sub.refl _) (fun x hx => SH.start' _ _ hx)
  refine CW.seq (CW.region ?_)
  refine RW.assign rfl rfl ?_
  refine RW.assign rfl rfl ?_
  refine RW.nil (EX.seq (CW.seq (CW.seq (CW.region ?_))))
  refine RW.move rfl rfl ?_
  refine RW.add rfl rfl rfl (wrap64 (by omega) (by omega)) ?_
  refine RW.move rfl rfl ?_
  refine RW.lenS Try.underlying9 rfl rfl ?_
  refine RW.geq rfl rfl rfl ?_
  refine RW.nil (EX.seq ?_)
  -- mq: cond
  first | refine CW.condD rfl (fun h1 => ?_) (fun h1 => ?_) | refine CW.cond rfl (fun h1 => ?_) (fun h1 => ?_)
  · skip
    refine CW.seq (CW.region ?_)
    refine RW.assign rfl rfl ?_
    refine RW.assign rfl rfl ?_
    refine RW.nil (EX.seq (CW.ret (EX.seqR ?_)))
    refine EX.fin2 Try.results31 rfl rfl (fun wz hw => ?_)
    -- mq: done
    exact ⟨by rw [codeV, if_neg (by omega)], hw.ext⟩
  · skip
    obtain ⟨a, ha⟩ : ∃ a, s[i + 1]? = some a := ⟨s[i + 1]'(by omega), List.getElem?_eq_getElem _⟩
    obtain ⟨b, hb⟩ : ∃ b, s[i + 2]? = some b := ⟨s[i + 2]'(by omega), List.getElem?_eq_getElem _⟩
    have hra := hexI_range a
    have hrb := hexI_range b
    refine CW.skip (EX.seq (CW.seq ?_))
    refine CW.drawq mixed (by kernel_rfl) (fun _ hw => hw.drew) ?_
    refine DRq.cons rfl (RW.move rfl rfl RW.jn) ?_
    refine DRq.cons rfl (RW.move rfl rfl RW.jn) ?_
    refine DRq.cons rfl (RW.add rfl rfl rfl (wrap64 (by omega) (by omega)) RW.jn) ?_
    refine DRq.cons rfl (RW.ixStr (q := i + 1) Try.underlying9 rfl rfl rfl (by omega) ha RW.jn) ?_
    refine DRq.cons rfl (RW.callP rfl ca35 rfl (fun w' _ => hex_c w' a) RW.jn) ?_
    refine DRq.cons rfl (RW.move rfl rfl RW.jn) ?_
    refine DRq.cons rfl (RW.move rfl rfl RW.jn) ?_
    refine DRq.cons rfl (RW.add rfl rfl rfl (wrap64 (by omega) (by omega)) RW.jn) ?_
    refine DRq.cons rfl (RW.ixStr (q := i + 2) Try.underlying9 rfl rfl rfl (by omega) hb RW.jn) ?_
    refine DRq.cons rfl (RW.callP rfl ca35 rfl (fun w' _ => hex_c w' b) RW.jn) ?_
    refine DRq.cons rfl (RW.assign rfl rfl RW.jn) ?_
    refine DRq.cons rfl (RW.assign rfl rfl RW.jn) ?_
    refine DRq.nil (EX.seq (CW.seq ?_))
    -- mq: region
    have hor : (max 0 (hexI a)).toNat * 16 ||| (max 0 (hexI b)).toNat < 2 ^ 8 := Nat.or_lt_two_pow (by omega) (by omega)
    refine CW.region ?_
    refine RW.move rfl rfl ?_
    refine RW.max2 rfl rfl rfl ?_
    refine RW.shlN rfl rfl rfl (by decide) (r := max 0 (hexI a) * 16) (by rw [show min (4 : Int).toNat IntKind.i64.bits = 4 from rfl]; exact wrap64 (by omega) (by omega)) ?_
    refine RW.move rfl rfl ?_
    refine RW.max2 rfl rfl rfl ?_
    refine RW.or_ rfl rfl rfl (r := (((max 0 (hexI a)).toNat * 16 ||| (max 0 (hexI b)).toNat : Nat) : Int)) (or_eq (m := (max 0 (hexI a)).toNat * 16) (n := (max 0 (hexI b)).toNat) (by omega) (by omega) (by show _ < 2 ^ 64; omega) (by show _ < 2 ^ 64; omega) (wrap64 (by omega) (by omega))) ?_
    refine RW.convI rfl rfl Try.underlying3 Try.underlying5 (r := codeI a b) rfl ?_
    refine RW.move rfl rfl ?_
    refine RW.geq rfl rfl rfl ?_
    refine RW.move rfl rfl ?_
    -- mq: guard slot 32
    have hga : s.getD (i + 1) 0 = a := by simp [List.getD, ha]
    have hgb : s.getD (i + 2) 0 = b := by simp [List.getD, hb]
    refine RW.casesB 32 rfl (fun h32 => ?_) (fun h32 => ?_)
    · skip
      have h32p := of_decide_eq_true h32
      refine RW.guardT rfl rfl h32 ?_
      refine RW.move rfl rfl ?_
      refine RW.guardT rfl rfl h32 ?_
      refine RW.geq rfl rfl rfl ?_
      refine RW.pickB rfl rfl h32 rfl ?_
      refine RW.assign rfl rfl ?_
      refine RW.assign rfl rfl ?_
      refine RW.nil (EX.seq (CW.ret ?_))
      refine EX.fin2 Try.results31 rfl rfl (fun wz hw => ?_)
      -- mq: done
      exact ⟨by rw [codeV, if_pos (by omega), hga, hgb, decide_eq_true h32p, Bool.true_and], hw.ext⟩
    · skip
      have h32p := of_decide_eq_false h32
      refine RW.guardF rfl rfl rfl h32 ?_
      refine RW.guardF rfl rfl rfl h32 ?_
      refine RW.pickC rfl rfl h32 rfl ?_
      refine RW.assign rfl rfl ?_
      refine RW.assign rfl rfl ?_
      refine RW.nil (EX.seq (CW.ret ?_))
      refine EX.fin2 Try.results31 rfl rfl (fun wz hw => ?_)
      -- mq: done
      exact ⟨by rw [codeV, if_pos (by omega), hga, hgb, decide_eq_false h32p, Bool.false_and], hw.ext⟩
theorem layByte_c (w : World) (c : UInt8) :
    Calls Try.prog 20 [.int .u8 (c.toNat : Int)].toArray w (fun e w' => e = .returned (.string (bs (layB c))) ∧ Ext [] w w') := by
  have hlt := c.toNat_lt
  refine calls (n := 16) Try.func20 rfl Try.ntmps20 rfl ?_
  refine CW.sub (H' := SH w [] []) ?_ (Sub.refl _) (fun x hx => SH.start' _ _ hx)
  refine CW.seq (CW.region ?_)
  refine RW.assign rfl rfl ?_
  refine RW.nil (EX.seq (CW.seq (CW.seq (CW.region ?_))))
  refine RW.move rfl rfl ?_
  -- mq: op 1: ('Op.call', ('Call.mk', ('Callee.value', ('Operand.func', '21')), ('arr', ('Operand.tmp', '3')), ('arr', '5'))) -> slot 4 ("pct.go:36")
  refine RW.callP rfl ca21 rfl (fun w' _ => plain_c w' c) ?_
  refine RW.nil (EX.seq ?_)
  -- mq: cond
  first | refine CW.condD rfl (fun h1 => ?_) (fun h1 => ?_) | refine CW.cond rfl (fun h1 => ?_) (fun h1 => ?_)
  · skip
    refine CW.seq (CW.region ?_)
    refine RW.move rfl rfl ?_
    refine RW.buildSlc sl38 rfl rfl rfl rfl (fun g6 hg6 hf6 => ?_)
    -- mq: op 2: ('Op.convert', '38', '9', ('Operand.tmp', '6')) -> slot 7 ("pct.go:37")
    refine RW.bytesStr (s := [c]) Try.underlying38 Try.underlying5 Try.underlying9 rfl rfl (fun w' hw' => Rd.of_blk (E := EU8) (L := [c]) hw' Has.head rfl (by decide)) ?_
    refine RW.assign rfl rfl ?_
    refine RW.nil (EX.seq (CW.ret (EX.seqR ?_)))
    refine EX.fin1 Try.results20 rfl (fun wz hw => ?_)
    -- mq: done
    exact ⟨by rw [layB, if_pos h1], hw.ext⟩
  · skip
    obtain ⟨a, ha⟩ : ∃ a, digs[c.toNat / 16]? = some a := ⟨digs[c.toNat / 16]'(by show _ < 16; omega), List.getElem?_eq_getElem _⟩
    obtain ⟨b, hb⟩ : ∃ b, digs[c.toNat % 16]? = some b := ⟨digs[c.toNat % 16]'(by show _ < 16; omega), List.getElem?_eq_getElem _⟩
    refine CW.skip (EX.seq (CW.seq ?_))
    -- mq: region
    refine CW.drawS [true, true, true, true, true, true, false, false, false] 0 (SH w [] []) mixed (by kernel_rfl) (fun _ hw => hw.drew) (fun _ h => by first | exact h | (have h1 := h.rem Rem.head; first | exact h1 | (have h2 := h1.rem Rem.head; first | exact h2 | (have h3 := h2.rem Rem.head; exact h3)))) (by repeat (first | exact NoP.fin | exact NoP.jn | refine NoP.sq ?_ | refine NoP.bk ?_ | refine NoP.lp ?_)) ?_
    refine QuW.cons rfl (fun wq hq => (RW.move rfl rfl RW.jn)) ?_
    refine QuW.cons rfl (fun wq hq => (RW.shrN rfl rfl rfl (by decide) (r := ((c.toNat / 16 : Nat) : Int)) (by rw [show min (4 : Int).toNat IntKind.u8.bits = 4 from rfl]; omega) RW.jn)) ?_
    refine QuW.cons rfl (fun wq hq => (RW.ixStr (q := c.toNat / 16) Try.underlying9 rfl rfl rfl (by omega) ha RW.jn)) ?_
    refine QuW.cons rfl (fun wq hq => (RW.move rfl rfl RW.jn)) ?_
    refine QuW.cons rfl (fun wq hq => (RW.and_ rfl rfl rfl (r := ((c.toNat % 16 : Nat) : Int)) (and_eq (m := c.toNat) (n := 15) rfl rfl (by show _ < 2 ^ 8; omega) (by decide) (by rw [show c.toNat &&& 15 = c.toNat % 16 from Nat.and_two_pow_sub_one_eq_mod c.toNat 4]; exact wrapN8 (by omega) (by omega))) RW.jn)) ?_
    refine QuW.cons rfl (fun wq hq => (RW.ixStr (q := c.toNat % 16) Try.underlying9 rfl rfl rfl (by omega) hb RW.jn)) ?_
    refine QuW.skip ?_
    refine QuW.skip ?_
    refine QuW.skip ?_
    refine QuW.nil ?_
    refine SpW.hard ?_
    refine RW.buildSlc sl38 rfl rfl rfl rfl (fun g14 hg14 hf14 => ?_)
    -- mq: op 7: ('Op.convert', '38', '9', ('Operand.tmp', '14')) -> slot 15 ("pct.go:39")
    refine RW.bytesStr (s := [37, a, b]) Try.underlying38 Try.underlying5 Try.underlying9 rfl rfl (fun w' hw' => Rd.of_blk (E := EU8) (L := [37, a, b]) hw' Has.head rfl (by decide)) ?_
    refine RW.assign rfl rfl ?_
    refine RW.nil (EX.seq (CW.ret ?_))
    refine EX.fin1 Try.results20 rfl (fun wz hw => ?_)
    -- mq: done
    exact ⟨by rw [layB, if_neg (by simp [h1]), hexU, hexU, List.getD, ha, List.getD, hb]; rfl, hw.ext⟩
theorem lowByte_c (w : World) (c : UInt8) :
    Calls Try.prog 26 [.int .u8 (c.toNat : Int)].toArray w (fun e w' => e = .returned (.string (bs [lowB c])) ∧ Ext [] w w') := by
  have hlt := c.toNat_lt
  refine calls (n := 10) Try.func26 rfl Try.ntmps26 rfl ?_
  refine CW.sub (H' := SH w [] []) ?_ (Sub.refl _) (fun x hx => SH.start' _ _ hx)
  refine CW.seq (CW.region ?_)
  refine RW.assign rfl rfl ?_
  refine RW.nil (EX.seq (CW.seq (CW.seq (CW.region ?_))))
  refine RW.move rfl rfl ?_
  -- mq: op 1: ('Op.call', ('Call.mk', ('Callee.value', ('Operand.func', '27')), ('arr', ('Operand.tmp', '3'), ('Operand.const', ('Value.int', 'IntKind.u8', '65')), ('Operand.const', ('Value.int', 'IntKind.u8', '90'))), ('arr', '5', '5', '5'))) -> slot 4 ("pct.go:103")
  refine RW.callP rfl ca27 rfl (fun w' _ => between_c w' c 65 90) ?_
  refine RW.nil (EX.seq ?_)
  -- mq: cond
  first | refine CW.condD rfl (fun h1 => ?_) (fun h1 => ?_) | refine CW.cond rfl (fun h1 => ?_) (fun h1 => ?_)
  · skip
    have h2 : c.toNat ≤ 90 := by simp [betw] at h1; exact h1.2
    refine CW.region ?_
    refine RW.move rfl rfl ?_
    refine RW.add rfl rfl rfl (r := ((lowB c).toNat : Int)) (by rw [wrapN8 (by omega) (by omega), lowB, if_pos h1]; simp; omega) ?_
    refine RW.assign rfl rfl ?_
    refine RW.nil (EX.seq (CW.seq (CW.region ?_)))
    refine RW.move rfl rfl ?_
    refine RW.buildSlc sl38 rfl rfl rfl rfl (fun g8 hg8 hf8 => ?_)
    -- mq: op 2: ('Op.convert', '38', '9', ('Operand.tmp', '8')) -> slot 9 ("pct.go:106")
    refine RW.bytesStr (s := [lowB c]) Try.underlying38 Try.underlying5 Try.underlying9 rfl rfl (fun w' hw' => Rd.of_blk (E := EU8) (L := [lowB c]) hw' Has.head rfl (by decide)) ?_
    refine RW.assign rfl rfl ?_
    refine RW.nil (EX.seq (CW.ret ?_))
    refine EX.fin1 Try.results26 rfl (fun wz hw => ?_)
    -- mq: done
    exact ⟨rfl, hw.ext⟩
  · skip
    refine CW.skip (EX.seq (CW.seq (CW.region ?_)))
    refine RW.move rfl rfl ?_
    refine RW.buildSlc sl38 rfl rfl rfl rfl (fun g8 hg8 hf8 => ?_)
    -- mq: op 2: ('Op.convert', '38', '9', ('Operand.tmp', '8')) -> slot 9 ("pct.go:106")
    refine RW.bytesStr (s := [c]) Try.underlying38 Try.underlying5 Try.underlying9 rfl rfl (fun w' hw' => Rd.of_blk (E := EU8) (L := [c]) hw' Has.head rfl (by decide)) ?_
    refine RW.assign rfl rfl ?_
    refine RW.nil (EX.seq (CW.ret ?_))
    refine EX.fin1 Try.results26 rfl (fun wz hw => ?_)
    -- mq: done
    exact ⟨by rw [lowB, if_neg (by simp [h1])], hw.ext⟩
end Go.Proofs.Ytkabehgjgicckaa.Mq
