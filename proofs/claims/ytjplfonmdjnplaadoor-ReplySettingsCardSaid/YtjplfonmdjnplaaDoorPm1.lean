/- walks: Cut at a byte, value, head -/
import Derived.Test.YtjplfonmdjnplaaDoorPmData
import Derived.Shelf.GgClosure.StringsIndexFuncTop
namespace Go.Proofs.YtjplfonmdjnplaaDoor.Mq
open Go Go.RowKit Go.Proofs

theorem caSlIB : CaT Tryd.prog 72 := CaT.of Tryd.func72 (by kernel_rfl) (by kernel_rfl)
theorem caSlIx : CaT Tryd.prog 66 := CaT.of Tryd.func66 (by kernel_rfl) (by kernel_rfl)
theorem caSlCut : CaT Tryd.prog 59 := CaT.of Tryd.func59 (by kernel_rfl) (by kernel_rfl)
theorem slIndexByte_c (w : World) (s : List UInt8) (c : UInt8) :
    Calls Tryd.prog 72 [.string (bs s), .int .u8 (c.toNat : Int)].toArray w (fun e w' => e = .returned (.int .i64 (Lib.indexByte s c)) ∧ w' = w) := by
  refine calls (n := 8) Tryd.func72 rfl Tryd.ntmps72 rfl ?_
  refine CW.seq (CW.region ?_)
  refine RW.assign rfl rfl ?_
  refine RW.nil (EX.seq (CW.seq (CW.region ?_)))
  refine RW.move rfl rfl ?_
  refine RW.move rfl rfl ?_
  -- mq: op 2: ('Op.call', ('Call.mk', ('Callee.value', ('Operand.func', '78')), ('arr', ('Operand.tmp', '5'), ('Operand.tmp', '6')), ('arr', '9', '5'))) -> slot 7 ("strings.go:25")
  refine RW.ext1 rfl rfl (fun w'' _ => indexByte_run Tryd.func78 (by kernel_rfl) (by kernel_rfl) (by kernel_rfl) (by kernel_rfl) s c w'') ?_
  refine RW.assign rfl rfl ?_
  refine RW.nil (EX.seq (CW.ret ?_))
  refine EX.fin1 Tryd.results72 rfl (fun wz hw => ?_)
  -- mq: done
  exact ⟨rfl, hw⟩
theorem slIndex_c (w : World) (s : List UInt8) (c : UInt8) :
    Calls Tryd.prog 66 [.string (bs s), .string (bs [c])].toArray w (fun e w' => e = .returned (.int .i64 (Lib.indexByte s c)) ∧ w' = w) := by
  refine calls (n := 143) Tryd.func66 rfl Tryd.ntmps66 rfl ?_
  refine CW.seq (CW.region ?_)
  refine RW.assign rfl rfl ?_
  refine RW.nil (EX.seq (CW.seq (CW.region ?_)))
  refine RW.move rfl rfl ?_
  refine RW.lenS Tryd.underlying9 rfl rfl ?_
  refine RW.assign rfl rfl ?_
  refine RW.nil (EX.seq (CW.seq (CW.block (CW.seq (CW.region ?_)))))
  refine RW.move rfl rfl ?_
  refine RW.eqlI rfl rfl rfl ?_
  refine RW.move rfl rfl ?_
  -- mq: guard slot 19
  refine RW.guardT rfl rfl (by simp) ?_
  refine RW.move rfl rfl ?_
  refine RW.guardT rfl rfl (by simp) ?_
  refine RW.move rfl rfl ?_
  refine RW.guardT rfl rfl (by simp) ?_
  refine RW.eqlS rfl rfl rfl ?_
  refine RW.pickC rfl rfl (by simp) rfl ?_
  refine RW.assign rfl rfl ?_
  refine RW.nil (EX.seq ?_)
  -- mq: cond
  first | refine CW.condD rfl (fun h1 => ?_) (fun h1 => ?_) | refine CW.cond rfl (fun h1 => ?_) (fun h1 => ?_)
  · skip
    refine CW.seq (CW.region ?_)
    refine RW.assign rfl rfl ?_
    refine RW.nil (EX.seq (CW.ret (EX.bkR (EX.seqR ?_))))
    refine EX.fin1 Tryd.results66 rfl (fun wz hw => ?_)
    -- mq: done
    refine ⟨?_, hw⟩
    rw [← h1]
    simp [Lib.indexByte]
  · skip
    refine CW.seq (CW.region ?_)
    refine RW.move rfl rfl ?_
    refine RW.eqlI rfl rfl rfl ?_
    refine RW.assign rfl rfl ?_
    refine RW.nil (EX.seq ?_)
    -- mq: cond
    refine CW.condT rfl ((by simp)) ?_
    refine CW.seq (CW.region ?_)
    refine RW.move rfl rfl ?_
    refine RW.move rfl rfl ?_
    refine RW.ixStr (q := 0) Tryd.underlying9 rfl rfl rfl (by rfl) (rfl : [c][0]? = some c) ?_
    -- mq: op 3: ('Op.call', ('Call.mk', ('Callee.value', ('Operand.func', '72')), ('arr', ('Operand.tmp', '27'), ('Operand.tmp', '29')), ('arr', '9', '5'))) -> slot 30 ("strings.go:34")
    refine RW.callP rfl caSlIB rfl (fun w' _ => slIndexByte_c w' s c) ?_
    refine RW.assign rfl rfl ?_
    refine RW.nil (EX.seq (CW.ret (EX.bkR (EX.seqR ?_))))
    refine EX.fin1 Tryd.results66 rfl (fun wz hw => ?_)
    -- mq: done
    exact ⟨rfl, hw⟩
def cutV (s : List UInt8) (c : UInt8) : Value := if c ∈ s then .tuple #[.string (bs (s.takeWhile (· ≠ c))), .string (bs ((s.dropWhile (· ≠ c)).drop 1)), .bool true] else .tuple #[.string (bs s), .string (bs []), .bool false]
theorem slCut_c (w : World) (s : List UInt8) (c : UInt8) (hs : s.length ≤ 1000000) :
    Calls Tryd.prog 59 [.string (bs s), .string (bs [c])].toArray w (fun e w' => e = .returned (cutV s c) ∧ Ext [] w w') := by
  refine calls (n := 23) Tryd.func59 rfl Tryd.ntmps59 rfl ?_
  refine CW.sub (H' := SH w [] []) ?_ (Sub.refl _) (fun x hx => SH.start' _ _ hx)
  refine CW.seq (CW.region ?_)
  refine RW.assign rfl rfl ?_
  refine RW.assign rfl rfl ?_
  refine RW.assign rfl rfl ?_
  refine RW.nil (EX.seq (CW.seq (CW.seq (CW.region ?_))))
  refine RW.move rfl rfl ?_
  refine RW.move rfl rfl ?_
  -- mq: op 2: ('Op.call', ('Call.mk', ('Callee.value', ('Operand.func', '66')), ('arr', ('Operand.tmp', '8'), ('Operand.tmp', '9')), ('arr', '9', '9'))) -> slot 10 ("strings.go:81")
  refine RW.callP rfl caSlIx rfl (fun w' _ => slIndex_c w' s c) ?_
  refine RW.assign rfl rfl ?_
  refine RW.nil (EX.seq (CW.seq (CW.region ?_)))
  refine RW.move rfl rfl ?_
  refine RW.geq rfl rfl rfl ?_
  refine RW.nil (EX.seq ?_)
  -- mq: cond
  rcases ib_cases s c with ⟨hno, hib⟩ | ⟨pre, post, hpp, hpre, hib⟩
  · skip
    rw [hib]
    refine CW.condF rfl (rfl) ?_
    refine CW.skip (EX.seq (CW.seq (CW.region ?_)))
    refine RW.move rfl rfl ?_
    refine RW.assign rfl rfl ?_
    refine RW.assign rfl rfl ?_
    refine RW.assign rfl rfl ?_
    refine RW.nil (EX.seq (CW.ret ?_))
    refine EX.fin3 Tryd.results59 rfl rfl rfl (fun wz hw => ?_)
    -- mq: done
    exact ⟨by rw [cutV, if_neg hno], hw.ext⟩
  · skip
    rw [hib]
    refine CW.condT rfl ((by simp)) ?_
    have hl : pre.length + 1 ≤ s.length := by rw [hpp]; simp
    refine CW.seq ?_
    refine CW.drawq mixed (by kernel_rfl) (fun _ hw => hw.drew) ?_
    refine DRq.cons rfl (RW.move rfl rfl RW.jn) ?_
    refine DRq.cons rfl (RW.move rfl rfl RW.jn) ?_
    refine DRq.cons rfl (RW.sliceStrH pre.length Tryd.underlying9 rfl rfl rfl (by first | rfl | omega) (by first | omega | (simp; done) | (simp; omega)) RW.jn) ?_
    refine DRq.cons rfl (RW.move rfl rfl RW.jn) ?_
    refine DRq.cons rfl (RW.move rfl rfl RW.jn) ?_
    refine DRq.cons rfl (RW.move rfl rfl RW.jn) ?_
    refine DRq.cons rfl (RW.lenS Tryd.underlying9 rfl rfl RW.jn) ?_
    refine DRq.cons rfl (RW.add (r := ((pre.length + 1 : Nat) : Int)) rfl rfl rfl (by rw [wrap64 (by simp; omega) (by simp; omega)]; simp) RW.jn) ?_
    refine DRq.cons rfl (RW.sliceStrL (pre.length + 1) Tryd.underlying9 rfl rfl rfl (by first | rfl | omega) (by first | omega | (simp; done) | (simp; omega)) RW.jn) ?_
    refine DRq.cons rfl (RW.assign rfl rfl RW.jn) ?_
    refine DRq.cons rfl (RW.assign rfl rfl RW.jn) ?_
    refine DRq.cons rfl (RW.assign rfl rfl RW.jn) ?_
    refine DRq.nil (EX.seq (CW.ret (EX.seqR ?_)))
    refine EX.fin3 Tryd.results59 rfl rfl rfl (fun wz hw => ?_)
    -- mq: done
    refine ⟨?_, hw.ext⟩
    rw [cutV, if_pos (by rw [hpp]; simp), hpp, (cut_pre hpre).1, (cut_pre hpre).2, List.take_left', show pre ++ c :: post = (pre ++ [c]) ++ post by simp, List.drop_left'] <;> simp
theorem Cut_c (w : World) (s : List UInt8) (c : UInt8) (hs : s.length ≤ 1000000) :
    Calls Tryd.prog 54 [.string (bs s), .string (bs [c])].toArray w (fun e w' => e = .returned (cutV s c) ∧ Ext [] w w') := by
  refine calls (n := 13) Tryd.func54 rfl Tryd.ntmps54 rfl ?_
  refine CW.sub (H' := SH w [] []) ?_ (Sub.refl _) (fun x hx => SH.start' _ _ hx)
  refine CW.seq (CW.region ?_)
  refine RW.assign rfl rfl ?_
  refine RW.assign rfl rfl ?_
  refine RW.assign rfl rfl ?_
  refine RW.nil (EX.seq (CW.seq (CW.region ?_)))
  refine RW.move rfl rfl ?_
  refine RW.move rfl rfl ?_
  -- mq: op 2: ('Op.call', ('Call.mk', ('Callee.value', ('Operand.func', '59')), ('arr', ('Operand.tmp', '7'), ('Operand.tmp', '8')), ('arr', '9', '9'))) -> slot 9 ("strings.go:1272")
  refine RW.call rfl caSlCut rfl (fun w' _ => slCut_c w' s c hs) ?_
  obtain ⟨x, y, b, hcv⟩ : ∃ x y b, cutV s c = .tuple #[.string x, .string y, .bool b] := by unfold cutV; split <;> exact ⟨_, _, _, rfl⟩
  rw [hcv]
  refine RW.extract rfl rfl rfl ?_
  refine RW.extract rfl rfl rfl ?_
  refine RW.extract rfl rfl rfl ?_
  refine RW.assign rfl rfl ?_
  refine RW.assign rfl rfl ?_
  refine RW.assign rfl rfl ?_
  refine RW.nil (EX.seq (CW.ret ?_))
  refine EX.fin3 Tryd.results54 rfl rfl rfl (fun wz hw => ?_)
  -- mq: done
  exact ⟨rfl, hw.ext⟩
theorem value_c (w : World) (s : List UInt8) (hs : s.length ≤ 1000000) :
    Calls Tryd.prog 45 [.string (bs s)].toArray w (fun e w' => e = .returned (.int .i64 (valF s)) ∧ w' = w) := by
  refine calls (n := 23) Tryd.func45 rfl Tryd.ntmps45 rfl ?_
  refine CW.seq (CW.region ?_)
  refine RW.assign rfl rfl ?_
  refine RW.nil (EX.seq (CW.seq (CW.seq (CW.region ?_))))
  refine RW.move rfl rfl ?_
  refine RW.eqlS rfl rfl rfl ?_
  refine RW.nil (EX.seq ?_)
  -- mq: cond
  first | refine CW.condD rfl (fun h1 => ?_) (fun h1 => ?_) | refine CW.cond rfl (fun h1 => ?_) (fun h1 => ?_)
  · skip
    refine CW.seq (CW.region ?_)
    refine RW.assign rfl rfl ?_
    refine RW.nil (EX.seq (CW.ret (EX.seqR ?_)))
    refine EX.fin1 Tryd.results45 rfl (fun wz hw => ?_)
    -- mq: done
    exact ⟨by rw [valF, if_pos (by simpa using h1)], hw⟩
  · skip
    refine CW.skip (EX.seq (CW.seq (CW.region ?_)))
    refine RW.assign rfl rfl ?_
    refine RW.nil (EX.seq (CW.seq (CW.seq (CW.region ?_))))
    refine RW.assign rfl rfl ?_
    refine RW.nil (EX.seq (CW.block ?_))
    -- mq: loop
    refine CW.loop (ι := Nat) (fun k => [(0, .string (bs s)), (3, .int .i64 ((s.take k).foldl valStep 0)), (4, .int .i64 (k : Int))]) (fun _ x => x = w) (fun k => k ≤ s.length) (fun k => s.length - k) ?_ ?_
    · exact fun w' hw' => ⟨0, Nat.zero_le _, (by repeat (first | exact Sub.nil | refine Sub.cons (by rfl) ?_)), hw'⟩
    · rintro k hk
      refine CW.seq (CW.seq (CW.region ?_))
      refine RW.move rfl rfl ?_
      refine RW.move rfl rfl ?_
      refine RW.lenS Tryd.underlying9 rfl rfl ?_
      refine RW.lss rfl rfl rfl ?_
      refine RW.nil (EX.seq ?_)
      -- mq: cond
      first | refine CW.condD rfl (fun hlt => ?_) (fun hlt => ?_) | refine CW.cond rfl (fun hlt => ?_) (fun hlt => ?_)
      · skip
        obtain ⟨c, hc⟩ : ∃ c, s[k]? = some c := ⟨s[k]'(by omega), List.getElem?_eq_getElem _⟩
        have hr := foldl_range (s.take k) 0 (by omega)
        have hwr := wrapU8_range ((c.toNat : Int) - 48)
        have hst : (s.take (k + 1)).foldl valStep 0 = min ((s.take k).foldl valStep 0 * 10 + IntKind.u8.wrap ((c.toNat : Int) - 48)) 65535 := by
          rw [List.take_add_one, hc, Option.toList_some, List.foldl_append]; rfl
        refine CW.skip (EX.seq (CW.seq (CW.block (CW.region ?_))))
        refine RW.move rfl rfl ?_
        refine RW.mul rfl rfl rfl (wrap64 (by omega) (by omega)) ?_
        refine RW.move rfl rfl ?_
        refine RW.move rfl rfl ?_
        refine RW.ixStr (q := k) Tryd.underlying9 rfl rfl rfl (by omega) hc ?_
        refine RW.sub_ rfl rfl rfl rfl ?_
        refine RW.convI rfl rfl Tryd.underlying5 Tryd.underlying3 (wrap64 (by omega) (by omega)) ?_
        refine RW.add rfl rfl rfl (wrap64 (by omega) (by omega)) ?_
        refine RW.min2 rfl rfl rfl ?_
        refine RW.assign rfl rfl ?_
        refine RW.nil (EX.bkN (EX.seq (CW.region ?_)))
        refine RW.move rfl rfl ?_
        refine RW.add rfl rfl rfl (wrap64 (by omega) (by omega)) ?_
        refine RW.assign rfl rfl ?_
        refine RW.nil ?_
        -- mq: loopend
        refine EX.lpN (k + 1) (by omega) (by omega) (Sub.cons (by rfl) (Sub.cons ?_ (Sub.cons (by rfl) Sub.nil))) (fun w' hw' => hw')
        rw [hst]
        simp [look]
      · skip
        have hks : s.take k = s := List.take_of_length_le (by omega)
        rw [hks]
        refine CW.exit (EX.seqE (EX.lpE (EX.bkE (EX.seq (CW.seq (CW.region ?_))))))
        refine RW.move rfl rfl ?_
        refine RW.assign rfl rfl ?_
        refine RW.nil (EX.seq (CW.ret ?_))
        refine EX.fin1 Tryd.results45 rfl (fun wz hw => ?_)
        -- mq: done
        exact ⟨by rw [valF, if_neg (by simpa using h1)], hw⟩
theorem each_c (w : World) (f : FuncId) (cap : Array Value) (hf : CaT Tryd.prog f) (Φ : List (List UInt8) → World → Prop) (s0 : List UInt8) (hs0 : s0.length ≤ 1000000)
    (m : Nat) (hm : m ≤ 1000) (hΦ : ∀ ps part w', Φ ps w' → ps.length < m → (part.length ≤ s0.length ∧ ∀ c ∈ part, c ∈ s0) → Calls Tryd.prog f (#[] ++ [Value.string (bs part)].toArray ++ cap) w' (fun e w'' => e = .returned (.tuple #[]) ∧ Φ (ps ++ [part]) w''))
    (hx : ∀ ps w' w'', Φ ps w' → Ext [] w' w'' → Φ ps w'') (sep : UInt8) (h0 : Φ [] w) :
    Calls Tryd.prog 42 [.string (bs s0), .string (bs [sep]), .int .i64 (m : Int), .func (.func f) #[] cap].toArray w (fun e w' => e = .returned (.tuple #[]) ∧ Φ (partsL sep m s0) w') := by
  refine calls (n := 30) Tryd.func42 rfl Tryd.ntmps42 rfl ?_
  refine CW.sub (H' := Φ []) ?_ (Sub.refl _) (fun x hx => hx ▸ h0)
  refine CW.seq (CW.region ?_)
  refine RW.assign rfl rfl ?_
  refine RW.nil (EX.seq (CW.block ?_))
  -- mq: loop
  refine CW.loop (ι := Nat × List UInt8 × List (List UInt8)) (fun t => [(0, .string (bs t.2.1)), (1, .string (bs [sep])), (2, .int .i64 (m : Int)), (3, .func (.func f) #[] cap), (8, .int .i64 (t.1 : Int))]) (fun t => Φ t.2.2) (fun t => t.1 ≤ m ∧ t.2.2.length = t.1 ∧ (t.2.1.length ≤ s0.length ∧ ∀ c ∈ t.2.1, c ∈ s0) ∧ partsL sep m s0 = t.2.2 ++ partsL sep (m - t.1) t.2.1) (fun t => m - t.1) ?_ ?_
  · exact fun w' hw' => ⟨(0, s0, []), ⟨Nat.zero_le _, rfl, ⟨Nat.le_refl _, fun c hc => hc⟩, rfl⟩, (by repeat (first | exact Sub.nil | refine Sub.cons (by rfl) ?_)), hw'⟩
  · rintro ⟨k, r, ps⟩ ⟨hk, hps, hr, hspec⟩
    dsimp only at hk hps hr hspec ⊢
    refine CW.seq (CW.seq (CW.region ?_))
    refine RW.move rfl rfl ?_
    refine RW.move rfl rfl ?_
    refine RW.lss rfl rfl rfl ?_
    refine RW.nil (EX.seq ?_)
    -- mq: cond
    first | refine CW.condD rfl (fun hlt => ?_) (fun hlt => ?_) | refine CW.cond rfl (fun hlt => ?_) (fun hlt => ?_)
    · skip
      obtain ⟨q, hq⟩ : ∃ q, m - k = q + 1 := ⟨m - k - 1, by omega⟩
      rw [hq] at hspec
      refine CW.skip (EX.seq (CW.seq (CW.block (CW.seq (CW.region ?_)))))
      refine RW.move rfl rfl ?_
      refine RW.move rfl rfl ?_
      -- mq: op 2: ('Op.call', ('Call.mk', ('Callee.value', ('Operand.func', '54')), ('arr', ('Operand.tmp', '18'), ('Operand.tmp', '19')), ('arr', '9', '9'))) -> slot 20 ("param.go:34")
      refine RW.callI (v := cutV r sep) (H' := Φ ps) rfl ca54 rfl (fun w' hw' => ?_) ?_
      · refine Calls.mono (Cut_c w' r sep (by omega)) ?_
        rintro e w'' ⟨rfl, he⟩
        exact ⟨rfl, hx ps w' w'' hw' he⟩
      rcases ib_cases r sep with ⟨hno, hib⟩ | ⟨pre, post, hpp, hpre, hib⟩
      · skip
        rw [cutV, if_neg hno]
        refine RW.move rfl rfl ?_
        refine RW.extract rfl rfl rfl ?_
        refine RW.extract rfl rfl rfl ?_
        refine RW.extract rfl rfl rfl ?_
        refine RW.assign rfl rfl ?_
        refine RW.assign rfl rfl ?_
        refine RW.assign rfl rfl ?_
        refine RW.nil (EX.seq (CW.seq (CW.region ?_)))
        refine RW.move rfl rfl ?_
        refine RW.move rfl rfl ?_
        -- mq: op 2: ('Op.call', ('Call.mk', ('Callee.value', ('Operand.tmp', '24')), ('arr', ('Operand.tmp', '25')), ('arr', '9'))) -> slot 26 ("param.go:35")
        refine RW.callIV (v := .tuple #[]) (H' := Φ (ps ++ [r])) rfl rfl hf rfl (fun w' hw' => hΦ ps r w' hw' (by omega) hr) ?_
        refine RW.nil (EX.seq (CW.seq (CW.seq (CW.region ?_))))
        refine RW.move rfl rfl ?_
        refine RW.not_ rfl rfl ?_
        refine RW.nil (EX.seq ?_)
        -- mq: cond
        refine CW.condT rfl (rfl) ?_
        refine CW.ret (EX.seqR (EX.bkR (EX.seqR (EX.lpR (EX.bkR ?_)))))
        refine EX.fin0 Tryd.results42 (fun wz hw => ?_)
        -- mq: done
        rw [partsL_out hno] at hspec
        rw [hspec]
        exact ⟨rfl, hw⟩
      · skip
        have hin : sep ∈ r := by rw [hpp]; simp
        rw [cutV, if_pos hin]
        rw [hpp, (cut_pre hpre).1, (cut_pre hpre).2]
        have hprel : pre.length ≤ r.length ∧ post.length ≤ r.length := by rw [hpp]; simp; omega
        have hprem : ∀ c ∈ pre, c ∈ s0 := fun c hc => hr.2 c (by rw [hpp]; simp [hc])
        have hpostm : ∀ c ∈ post, c ∈ s0 := fun c hc => hr.2 c (by rw [hpp]; simp [hc])
        refine RW.move rfl rfl ?_
        refine RW.extract rfl rfl rfl ?_
        refine RW.extract rfl rfl rfl ?_
        refine RW.extract rfl rfl rfl ?_
        refine RW.assign rfl rfl ?_
        refine RW.assign rfl rfl ?_
        refine RW.assign rfl rfl ?_
        refine RW.nil (EX.seq (CW.seq (CW.region ?_)))
        refine RW.move rfl rfl ?_
        refine RW.move rfl rfl ?_
        -- mq: op 2: ('Op.call', ('Call.mk', ('Callee.value', ('Operand.tmp', '24')), ('arr', ('Operand.tmp', '25')), ('arr', '9'))) -> slot 26 ("param.go:35")
        refine RW.callIV (v := .tuple #[]) (H' := Φ (ps ++ [pre])) rfl rfl hf rfl (fun w' hw' => hΦ ps pre w' hw' (by omega) ⟨by omega, hprem⟩) ?_
        refine RW.nil (EX.seq (CW.seq (CW.seq (CW.region ?_))))
        refine RW.move rfl rfl ?_
        refine RW.not_ rfl rfl ?_
        refine RW.nil (EX.seq ?_)
        -- mq: cond
        refine CW.condF rfl (rfl) ?_
        refine CW.skip (EX.seq (CW.region ?_))
        refine RW.move rfl rfl ?_
        refine RW.assign rfl rfl ?_
        refine RW.nil (EX.bkN (EX.seq (CW.region ?_)))
        refine RW.move rfl rfl ?_
        refine RW.add rfl rfl rfl (wrap64 (by omega) (by omega)) ?_
        refine RW.assign rfl rfl ?_
        refine RW.nil ?_
        -- mq: loopend
        rw [hpp, partsL_in hpre] at hspec
        refine EX.lpN (k + 1, post, ps ++ [pre]) ⟨by dsimp only; omega, by simp; omega, ⟨by dsimp only; omega, hpostm⟩, ?_⟩ (by dsimp only; omega) (by repeat (first | exact Sub.nil | refine Sub.cons (by rfl) ?_)) (fun w' hw' => hw')
        dsimp only
        rw [hspec, show m - (k + 1) = q by omega]
        simp
    · skip
      refine CW.exit (EX.seqE (EX.lpE (EX.bkE ?_)))
      refine EX.fin0N Tryd.results42 (fun wz hw => ?_)
      -- mq: done
      rw [show m - k = 0 by omega, partsL, List.append_nil] at hspec
      rw [hspec]
      exact ⟨rfl, hw⟩
end Go.Proofs.YtjplfonmdjnplaaDoor.Mq
