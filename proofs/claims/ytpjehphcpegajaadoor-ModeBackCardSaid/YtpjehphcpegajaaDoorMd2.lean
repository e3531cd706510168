/- modes: walks of name, New, Report, List; lists of texts; the reference's All, First, Has -/
import Derived.Test.YtpjehphcpegajaaDoorMd1
namespace Go.Proofs.YtpjehphcpegajaaDoor.Mq
open Go Go.RowKit Go.Proofs

def EStr : Enc (List UInt8) := ⟨fun s => [.string (bs s)], 1, fun _ => rfl, fun _ => Ones.cons rfl Ones.nil⟩
def nameL (p : Bool) (n : Int) : List UInt8 := (if p then [63] else []) ++ Lib.itoa n
theorem nameL_len (p : Bool) (n : Int) (h : -9223372036854775808 ≤ n ∧ n ≤ 9223372036854775807) : (nameL p n).length ≤ 22 := by
  have := Lib.itoa_length_le n h.1 h.2
  unfold nameL
  rw [List.length_append]
  split <;> simp <;> omega
theorem name_c (w : World) (hg : Gl w) (p : Bool) (n : Int) (h : -9223372036854775808 ≤ n ∧ n ≤ 9223372036854775807) :
    Calls Tryd.prog 24 [.bool p, .int .i64 n].toArray w (fun e w' => e = .returned (.string (bs (nameL p n))) ∧ Ext [] w w') := by
  have hil := Lib.itoa_length_le n h.1 h.2
  refine calls (n := 11) Tryd.func24 rfl Tryd.ntmps24 rfl ?_
  refine CW.sub (H' := SH w [] []) ?_ (Sub.refl _) (fun x hx => SH.start' _ _ hx)
  refine CW.seq (CW.region ?_)
  refine RW.assign rfl rfl ?_
  refine RW.nil (EX.seq (CW.seq (CW.seq (CW.region ?_))))
  refine RW.move rfl rfl ?_
  refine RW.nil (EX.seq ?_)
  -- mq: cond
  first | refine CW.condD rfl (fun h1 => ?_) (fun h1 => ?_) | refine CW.cond rfl (fun h1 => ?_) (fun h1 => ?_)
  · skip
    refine CW.seq (CW.region ?_)
    refine RW.move rfl rfl ?_
    -- mq: op 1: ('Op.call', ('Call.mk', ('Callee.value', ('Operand.func', '27')), ('arr', ('Operand.tmp', '6')), ('arr', '3'))) -> slot 7 ("mode.go:60")
    refine RW.call rfl caItoa rfl (fun w' hw' => itoa_c w' (hg.ext hw'.ext) n h) ?_
    refine RW.catS rfl rfl rfl (by first | omega | (simp only [List.length_append, List.length_cons, List.length_nil]; omega)) ?_
    refine RW.assign rfl rfl ?_
    refine RW.nil (EX.seq (CW.ret (EX.seqR ?_)))
    refine EX.fin1 Tryd.results24 rfl (fun wz hw => ?_)
    -- mq: done
    exact ⟨by rw [nameL, if_pos h1], hw.ext⟩
  · skip
    refine CW.skip (EX.seq (CW.seq (CW.region ?_)))
    refine RW.move rfl rfl ?_
    -- mq: op 1: ('Op.call', ('Call.mk', ('Callee.value', ('Operand.func', '27')), ('arr', ('Operand.tmp', '9')), ('arr', '3'))) -> slot 10 ("mode.go:62")
    refine RW.call rfl caItoa rfl (fun w' hw' => itoa_c w' (hg.ext hw'.ext) n h) ?_
    refine RW.assign rfl rfl ?_
    refine RW.nil (EX.seq (CW.ret ?_))
    refine EX.fin1 Tryd.results24 rfl (fun wz hw => ?_)
    -- mq: done
    exact ⟨by rw [nameL, if_neg (by simp [h1])]; rfl, hw.ext⟩
def newB : Nat := 96
theorem new_eq : withF (withF 0 true 7 true) true 25 true = newB := by decide
theorem new_c (w : World) : Calls Tryd.prog 8 [].toArray w (fun e w' => e = .returned (setV newB) ∧ Ext [] w w') := by
  refine calls (n := 4) Tryd.func8 rfl Tryd.ntmps8 rfl ?_
  refine CW.sub (H' := SH w [] []) ?_ (Sub.refl _) (fun x hx => SH.start' _ _ hx)
  refine CW.seq (CW.region ?_)
  refine RW.allocA ag26 rfl (fun g0 hg0 hf0 => ?_)
  refine RW.nil (EX.seq (CW.seq (CW.region ?_)))
  refine RW.buildS bu26 rfl rfl rfl ?_
  -- mq: op 1: ('Op.call', ('Call.mk', ('Callee.value', ('Operand.func', '10')), ('arr', ('Operand.tmp', '1'), ('Operand.const', ('Value.bool', 'true')), ('Operand.const', ('Value.int', 'IntKind.i64', '7')), ('Operand.const', ('Value.bool', 'true'))), ('arr', '26', '4', '3', '4'))) -> slot 2 ("mode.go:33")
  refine RW.call rfl ca10 rfl (fun w' hw' => with_c w' 0 (by decide) true 7 true) ?_
  refine RW.call rfl ca10 rfl (fun w' hw' => with_c w' _ (withF_lt (by decide) _ _ _) true 25 true) ?_
  rw [new_eq]
  refine RW.storeA ag26 rfl rfl (by first | exact Upd.head | exact Upd.tail Upd.head | exact Upd.tail (Upd.tail Upd.head) | exact Upd.tail (Upd.tail (Upd.tail Upd.head)) | exact Upd.tail (Upd.tail (Upd.tail (Upd.tail Upd.head))) | exact Upd.tail (Upd.tail (Upd.tail (Upd.tail (Upd.tail Upd.head)))) | exact Upd.tail (Upd.tail (Upd.tail (Upd.tail (Upd.tail (Upd.tail Upd.head)))))) (by first | rfl | exact Enc.len _ _) (by repeat (first | exact Ones.nil | exact Enc.ones _ _ | refine Ones.cons rfl ?_)) (by first | exact Nat.le_of_ble_eq_true rfl | (simp only [Enc.len]; decide)) ?_
  refine RW.nil (EX.seq (CW.ret ?_))
  refine EX.fin1' Tryd.results8 (RV.cellA ag26 rfl (by first | exact Has.head | exact Has.tail Has.head | exact Has.tail (Has.tail Has.head) | exact Has.tail (Has.tail (Has.tail Has.head)) | exact Has.tail (Has.tail (Has.tail (Has.tail Has.head))) | exact Has.tail (Has.tail (Has.tail (Has.tail (Has.tail Has.head)))) | exact Has.tail (Has.tail (Has.tail (Has.tail (Has.tail (Has.tail Has.head)))))) rfl rfl) (fun wz hw => ?_)
  -- mq: done
  exact ⟨rfl, hw.ext⟩
def reportF (b : Nat) (p : Bool) (n : Int) : List UInt8 := [27, 91] ++ nameL p n ++ [59] ++ [if isF b p n then 49 else if (placeF p n).isSome then 50 else 48] ++ [36, 121]
theorem report_c (w : World) (hg : Gl w) (b : Nat) (hb : b < 4294967296) (p : Bool) (n : Int) (h : -9223372036854775808 ≤ n ∧ n ≤ 9223372036854775807) :
    Calls Tryd.prog 19 [setV b, .bool p, .int .i64 n].toArray w (fun e w' => e = .returned (.string (bs (reportF b p n))) ∧ Ext [] w w') := by
  have hnl := nameL_len p n h
  refine calls (n := 25) Tryd.func19 rfl Tryd.ntmps19 rfl ?_
  refine CW.sub (H' := SH w [] []) ?_ (Sub.refl _) (fun x hx => SH.start' _ _ hx)
  refine CW.seq (CW.region ?_)
  refine RW.boxA rfl rfl (fun g3 hg3 hf3 => ?_)
  refine RW.assign rfl rfl ?_
  refine RW.nil (EX.seq (CW.seq (CW.region ?_)))
  refine RW.assign rfl rfl ?_
  refine RW.nil (EX.seq (CW.seq (CW.block (CW.seq (CW.region ?_)))))
  refine RW.loadBA ag26 rfl rfl (by first | exact Has.head | exact Has.tail Has.head | exact Has.tail (Has.tail Has.head) | exact Has.tail (Has.tail (Has.tail Has.head)) | exact Has.tail (Has.tail (Has.tail (Has.tail Has.head))) | exact Has.tail (Has.tail (Has.tail (Has.tail (Has.tail Has.head)))) | exact Has.tail (Has.tail (Has.tail (Has.tail (Has.tail (Has.tail Has.head)))))) rfl rfl ?_
  refine RW.move rfl rfl ?_
  refine RW.move rfl rfl ?_
  -- mq: op 3: ('Op.call', ('Call.mk', ('Callee.value', ('Operand.func', '15')), ('arr', ('Operand.tmp', '9'), ('Operand.tmp', '10'), ('Operand.tmp', '11')), ('arr', '26', '4', '3'))) -> slot 12 ("mode.go:69")
  refine RW.call rfl ca15 rfl (fun w' hw' => is_c w' b hb p n) ?_
  refine RW.assign rfl rfl ?_
  refine RW.nil (EX.seq ?_)
  -- mq: cond
  first | refine CW.condD rfl (fun h1 => ?_) (fun h1 => ?_) | refine CW.cond rfl (fun h1 => ?_) (fun h1 => ?_)
  · skip
    refine CW.region ?_
    refine RW.assign rfl rfl ?_
    refine RW.nil (EX.bkN (EX.seq (CW.seq (CW.region ?_))))
    refine RW.move rfl rfl ?_
    refine RW.move rfl rfl ?_
    -- mq: op 2: ('Op.call', ('Call.mk', ('Callee.value', ('Operand.func', '24')), ('arr', ('Operand.tmp', '17'), ('Operand.tmp', '18')), ('arr', '4', '3'))) -> slot 19 ("mode.go:74")
    refine RW.call rfl ca24 rfl (fun w' hw' => name_c w' (hg.ext hw'.ext) p n h) ?_
    refine RW.catS rfl rfl rfl (by first | omega | (simp only [List.length_append, List.length_cons, List.length_nil]; omega)) ?_
    refine RW.catS rfl rfl rfl (by first | omega | (simp only [List.length_append, List.length_cons, List.length_nil]; omega)) ?_
    refine RW.move rfl rfl ?_
    refine RW.catS rfl rfl rfl (by first | omega | (simp only [List.length_append, List.length_cons, List.length_nil]; omega)) ?_
    refine RW.catS rfl rfl rfl (by first | omega | (simp only [List.length_append, List.length_cons, List.length_nil]; omega)) ?_
    refine RW.assign rfl rfl ?_
    refine RW.nil (EX.seq (CW.ret ?_))
    refine EX.fin1 Tryd.results19 rfl (fun wz hw => ?_)
    -- mq: done
    exact ⟨by rw [reportF, if_pos h1], hw.ext⟩
  · skip
    refine CW.seq (CW.region ?_)
    refine RW.move rfl rfl ?_
    refine RW.move rfl rfl ?_
    -- mq: op 2: ('Op.call', ('Call.mk', ('Callee.value', ('Operand.func', '17')), ('arr', ('Operand.tmp', '14'), ('Operand.tmp', '15')), ('arr', '4', '3'))) -> slot 16 ("mode.go:71")
    refine RW.call rfl ca17 rfl (fun w' hw' => known_c w' p n) ?_
    refine RW.assign rfl rfl ?_
    refine RW.nil (EX.seq ?_)
    -- mq: cond
    first | refine CW.condD rfl (fun h2 => ?_) (fun h2 => ?_) | refine CW.cond rfl (fun h2 => ?_) (fun h2 => ?_)
    · skip
      refine CW.region ?_
      refine RW.assign rfl rfl ?_
      refine RW.nil (EX.bkN (EX.seq (CW.seq (CW.region ?_))))
      refine RW.move rfl rfl ?_
      refine RW.move rfl rfl ?_
      -- mq: op 2: ('Op.call', ('Call.mk', ('Callee.value', ('Operand.func', '24')), ('arr', ('Operand.tmp', '17'), ('Operand.tmp', '18')), ('arr', '4', '3'))) -> slot 19 ("mode.go:74")
      refine RW.call rfl ca24 rfl (fun w' hw' => name_c w' (hg.ext hw'.ext) p n h) ?_
      refine RW.catS rfl rfl rfl (by first | omega | (simp only [List.length_append, List.length_cons, List.length_nil]; omega)) ?_
      refine RW.catS rfl rfl rfl (by first | omega | (simp only [List.length_append, List.length_cons, List.length_nil]; omega)) ?_
      refine RW.move rfl rfl ?_
      refine RW.catS rfl rfl rfl (by first | omega | (simp only [List.length_append, List.length_cons, List.length_nil]; omega)) ?_
      refine RW.catS rfl rfl rfl (by first | omega | (simp only [List.length_append, List.length_cons, List.length_nil]; omega)) ?_
      refine RW.assign rfl rfl ?_
      refine RW.nil (EX.seq (CW.ret ?_))
      refine EX.fin1 Tryd.results19 rfl (fun wz hw => ?_)
      -- mq: done
      exact ⟨by rw [reportF, if_neg (by simp [h1]), if_pos h2], hw.ext⟩
    · skip
      refine CW.skip (EX.bkN (EX.seq (CW.seq (CW.region ?_))))
      refine RW.move rfl rfl ?_
      refine RW.move rfl rfl ?_
      -- mq: op 2: ('Op.call', ('Call.mk', ('Callee.value', ('Operand.func', '24')), ('arr', ('Operand.tmp', '17'), ('Operand.tmp', '18')), ('arr', '4', '3'))) -> slot 19 ("mode.go:74")
      refine RW.call rfl ca24 rfl (fun w' hw' => name_c w' (hg.ext hw'.ext) p n h) ?_
      refine RW.catS rfl rfl rfl (by first | omega | (simp only [List.length_append, List.length_cons, List.length_nil]; omega)) ?_
      refine RW.catS rfl rfl rfl (by first | omega | (simp only [List.length_append, List.length_cons, List.length_nil]; omega)) ?_
      refine RW.move rfl rfl ?_
      refine RW.catS rfl rfl rfl (by first | omega | (simp only [List.length_append, List.length_cons, List.length_nil]; omega)) ?_
      refine RW.catS rfl rfl rfl (by first | omega | (simp only [List.length_append, List.length_cons, List.length_nil]; omega)) ?_
      refine RW.assign rfl rfl ?_
      refine RW.nil (EX.seq (CW.ret ?_))
      refine EX.fin1 Tryd.results19 rfl (fun wz hw => ?_)
      -- mq: done
      exact ⟨by rw [reportF, if_neg (by simp [h1]), if_neg (by simp [h2])], hw.ext⟩
/-- the names of the modes that are set -/
def nameAt (i : Nat) : List UInt8 := nameL (decide (2 ≤ i)) (numsL.getD i 0)
def listTo (b k : Nat) : List (List UInt8) := ((List.range k).filter (bitF b)).map nameAt
def listF (b : Nat) : List (List UInt8) := listTo b 18
theorem listTo_succ (b k : Nat) : listTo b (k + 1) = if bitF b k then listTo b k ++ [nameAt k] else listTo b k := by
  unfold listTo
  rw [List.range_succ, List.filter_append, List.map_append]
  by_cases h : bitF b k = true <;> simp [h]
theorem listTo_len (b k : Nat) : (listTo b k).length ≤ k := by
  unfold listTo
  rw [List.length_map]
  have := List.length_filter_le (bitF b) (List.range k)
  simpa using this
theorem listF_zero : listF 0 = [] := by
  unfold listF listTo
  have : (List.range 18).filter (bitF 0) = [] := by decide
  rw [this]; rfl
theorem nums_range : ∀ x ∈ numsL, 0 ≤ x ∧ x ≤ 2004 := by decide
theorem eqv_set (a b : Nat) : eqv [.int .u32 (a : Int)] [.int .u32 (b : Int)] = decide (a = b) := by
  rw [Bool.eq_iff_iff]
  simp only [eqv, veq, Bool.and_eq_true, decide_eq_true_eq, Bool.and_true]
  omega
theorem list_c (w : World) (hg : Gl w) (b : Nat) (hb : b < 4294967296) :
    Calls Tryd.prog 14 [setV b].toArray w (RetSl EStr w (listF b)) := by
  refine calls (n := 29) Tryd.func14 rfl Tryd.ntmps14 rfl ?_
  refine CW.sub (H' := SH w [] []) ?_ (Sub.refl _) (fun x hx => SH.start' _ _ hx)
  refine CW.seq (CW.region ?_)
  refine RW.boxA rfl rfl (fun g1 hg1 hf1 => ?_)
  refine RW.assign rfl rfl ?_
  refine RW.nil (EX.seq (CW.seq (CW.seq (CW.region ?_))))
  refine RW.loadBA ag26 rfl rfl (by first | exact Has.head | exact Has.tail Has.head | exact Has.tail (Has.tail Has.head) | exact Has.tail (Has.tail (Has.tail Has.head)) | exact Has.tail (Has.tail (Has.tail (Has.tail Has.head))) | exact Has.tail (Has.tail (Has.tail (Has.tail (Has.tail Has.head)))) | exact Has.tail (Has.tail (Has.tail (Has.tail (Has.tail (Has.tail Has.head)))))) rfl rfl ?_
  refine RW.buildS bu26 rfl rfl rfl ?_
  refine RW.eqlSt eq26 rfl rfl rfl (by kernel_rfl) (eqv_set b 0) ?_
  refine RW.nil (EX.seq ?_)
  -- mq: cond
  first | refine CW.condD rfl (fun h0 => ?_) (fun h0 => ?_) | refine CW.cond rfl (fun h0 => ?_) (fun h0 => ?_)
  · skip
    refine CW.seq (CW.region ?_)
    refine RW.assign rfl rfl ?_
    refine RW.nil (EX.seq (CW.ret (EX.seqR ?_)))
    refine EX.fin1 Tryd.results14 rfl (fun wz hw => ?_)
    -- mq: done
    have hb0 : b = 0 := by simpa using h0
    subst hb0
    rw [listF_zero]
    exact RetSl.of_own (v := .slice none 0 0) (t := 9) (m := 0) hw.ext (World.ownsRow_nil _ _ _ _) rfl (by simp [Value.ownBlock])
  · skip
    refine CW.skip (EX.seq (CW.seq (CW.region ?_)))
    refine RW.assign rfl rfl ?_
    refine RW.nil (EX.seq (CW.seq (CW.seq ?_)))
    -- mq: region
    refine CW.ownNil 9 1 ?_
    refine CW.region ?_
    -- mq: op 0: ('Op.call', ('Call.mk', ('Callee.value', ('Operand.func', '23')), ('arr',), ('arr',))) -> slot 9 ("mode.go:83")
    refine RW.call rfl ca23 rfl (fun w' _ => numbers_c w') ?_
    refine RW.move rfl rfl ?_
    refine RW.nil (EX.seq (CW.block ?_))
    -- mq: loop
    refine CW.loop (ι := Nat × Value) (fun i => [(1, .pointer (some ⟨g1, 0, none⟩)), (3, i.2), (9, .agg numsE.toArray), (10, .int .i64 (i.1 : Int))]) (fun i => SH w [] [own 9 1 i.2 (listTo b i.1).length (EStr.all (listTo b i.1)), blk g1 [.int .u32 (b : Int)] 26]) (fun i => i.1 ≤ 18 ∧ ∀ g, i.2.ownBlock = some g → w.heap.size ≤ g) (fun i => 18 - i.1) ?_ ?_
    · exact fun w hw => ⟨(0, .slice none 0 0), ⟨by omega, by simp [Value.ownBlock]⟩, (by repeat (first | exact Sub.nil | refine Sub.cons (by rfl) ?_)), hw⟩
    · rintro ⟨i, v⟩ ⟨hi, hv⟩
      dsimp only at hi hv ⊢
      have hll := listTo_len b i
      refine CW.seq (CW.region ?_)
      refine RW.lss rfl rfl rfl ?_
      refine RW.nil (EX.seq (CW.seq ?_))
      -- mq: cond
      first | refine CW.condD rfl (fun hlt => ?_) (fun hlt => ?_) | refine CW.cond rfl (fun hlt => ?_) (fun hlt => ?_)
      · skip
        obtain ⟨x, hx⟩ : ∃ x, numsL[i]? = some x := ⟨numsL[i]'(by simp [numsL]; omega), List.getElem?_eq_getElem _⟩
        have hxe : numsE[i]? = some (.int .i64 x) := by rw [numsE, List.getElem?_map, hx]; rfl
        have hxr : 0 ≤ x ∧ x ≤ 2004 := nums_range x (List.mem_of_getElem? hx)
        have hnm : nameL (decide ((2 : Int) ≤ (i : Int))) x = nameAt i := by
          rw [nameAt, List.getD_eq_getElem?_getD, hx]
          have : decide ((2 : Int) ≤ (i : Int)) = decide (2 ≤ i) := by rw [decide_eq_decide]; omega
          rw [this]; rfl
        have hs := listTo_succ b i
        have hb1 : decide (((b / 2 ^ min i 32 % 2 : Nat) : Int) = 1) = bitF b i := by
          rw [bitF, decide_eq_decide, Nat.min_eq_left (by omega)]
          exact Int.ofNat_inj (n := 1)
        refine CW.skip (EX.seq (CW.seq (CW.block (CW.seq (CW.region ?_)))))
        refine RW.move rfl rfl ?_
        refine RW.ixValS (q := i) Tryd.underlying49 sc3 rfl rfl rfl (by omega) (by omega) hxe ?_
        refine RW.assign rfl rfl ?_
        refine RW.assign rfl rfl ?_
        refine RW.nil (EX.seq (CW.seq ?_))
        -- mq: region
        refine CW.region ?_
        refine RW.fieldB fl26x0 rfl rfl ?_
        refine RW.loadB1 sc24 rfl rfl (by first | exact Has.head | exact Has.tail Has.head | exact Has.tail (Has.tail Has.head) | exact Has.tail (Has.tail (Has.tail Has.head)) | exact Has.tail (Has.tail (Has.tail (Has.tail Has.head))) | exact Has.tail (Has.tail (Has.tail (Has.tail (Has.tail Has.head)))) | exact Has.tail (Has.tail (Has.tail (Has.tail (Has.tail (Has.tail Has.head)))))) rfl ?_
        refine RW.move rfl rfl ?_
        refine RW.shrN rfl rfl rfl (by omega) rfl ?_
        refine RW.and_ rfl rfl rfl (shr_and b i hb) ?_
        refine RW.eqlI rfl rfl rfl ?_
        refine RW.nil (EX.seq ?_)
        -- mq: cond
        rw [hb1]
        first | refine CW.condD rfl (fun h2 => ?_) (fun h2 => ?_) | refine CW.cond rfl (fun h2 => ?_) (fun h2 => ?_)
        · skip
          rw [if_pos (show bitF b i = true by simpa [bitF] using h2)] at hs
          refine CW.region ?_
          refine RW.move rfl rfl ?_
          refine RW.move rfl rfl ?_
          refine RW.geq rfl rfl rfl ?_
          refine RW.move rfl rfl ?_
          -- mq: op 4: ('Op.call', ('Call.mk', ('Callee.value', ('Operand.func', '24')), ('arr', ('Operand.tmp', '22'), ('Operand.tmp', '23')), ('arr', '4', '3'))) -> slot 24 ("mode.go:85")
          refine RW.call rfl ca24 rfl (fun w' hw' => name_c w' (hg.ext hw'.ext) _ x (by omega)) ?_
          rw [hnm]
          refine RW.buildSlc sl28 rfl rfl rfl rfl (fun g25 hg25 hf25 => ?_)
          refine RW.append1 sl28 rfl rfl rfl (by first | exact Rem.head | exact Rem.tail Rem.head | exact Rem.tail (Rem.tail Rem.head) | exact Rem.tail (Rem.tail (Rem.tail Rem.head)) | exact Rem.tail (Rem.tail (Rem.tail (Rem.tail Rem.head))) | exact Rem.tail (Rem.tail (Rem.tail (Rem.tail (Rem.tail Rem.head)))) | exact Rem.tail (Rem.tail (Rem.tail (Rem.tail (Rem.tail (Rem.tail Rem.head)))))) (fun _ => by first | exact Upd.head | exact Upd.tail Upd.head | exact Upd.tail (Upd.tail Upd.head) | exact Upd.tail (Upd.tail (Upd.tail Upd.head)) | exact Upd.tail (Upd.tail (Upd.tail (Upd.tail Upd.head))) | exact Upd.tail (Upd.tail (Upd.tail (Upd.tail (Upd.tail Upd.head)))) | exact Upd.tail (Upd.tail (Upd.tail (Upd.tail (Upd.tail (Upd.tail Upd.head)))))) rfl (by repeat (first | exact Ones.nil | exact Enc.ones _ _ | refine Ones.cons rfl ?_)) (by simp only [maxLen]; omega) (by omega) (fun v26 hv26 => ?_)
          refine RW.assign rfl rfl ?_
          refine RW.nil (EX.bkN (EX.seq (CW.region ?_)))
          refine RW.add rfl rfl rfl (wrap64 (by omega) (by omega)) ?_
          refine RW.move rfl rfl ?_
          refine RW.nil ?_
          -- mq: loopend
          refine EX.lpN (i + 1, v26) ⟨by omega, fun g hg => by
              rcases hv26 g hg with h | h
              · exact hv g h
              · exact h.1⟩ (by omega) (by repeat (first | exact Sub.nil | refine Sub.cons (by rfl) ?_)) (fun w' hw' => ?_)
          dsimp only
          rw [hs, List.length_append, Enc.all_snoc]
          exact hw'
        · skip
          rw [if_neg (show ¬ bitF b i = true by simpa [bitF] using h2)] at hs
          refine CW.skip (EX.bkN (EX.seq (CW.region ?_)))
          refine RW.add rfl rfl rfl (wrap64 (by omega) (by omega)) ?_
          refine RW.move rfl rfl ?_
          refine RW.nil ?_
          -- mq: loopend
          refine EX.lpN (i + 1, v) ⟨by omega, hv⟩ (by omega) (by repeat (first | exact Sub.nil | refine Sub.cons (by rfl) ?_)) (fun w' hw' => ?_)
          dsimp only
          rw [hs]
          exact hw'
      · skip
        have h18 : i = 18 := by omega
        subst h18
        refine CW.exit (EX.seqE (EX.lpE (EX.bkE (EX.seq (CW.seq (CW.region ?_))))))
        refine RW.move rfl rfl ?_
        refine RW.assign rfl rfl ?_
        refine RW.nil (EX.seq (CW.ret ?_))
        refine EX.fin1 Tryd.results14 rfl (fun wz hw => ?_)
        -- mq: done
        exact RetSl.of_own hw.ext (hw.has Has.head) rfl hv
end Go.Proofs.YtpjehphcpegajaaDoor.Mq
