/- modes: the plain functions; walks of place, Known, With, Is, New -/
import Derived.Test.YtpjehphcpegajaaDoorItoa
import Derived.Test.YtpjehphcpegajaaDoorVals
namespace Go.Proofs.YtpjehphcpegajaaDoor.Mq
open Go Go.RowKit Go.Proofs

def numsL : List Int := [4, 20, 1, 5, 6, 7, 25, 47, 66, 1000, 1002, 1003, 1004, 1006, 1047, 1048, 1049, 2004]
abbrev numsE : List Value := numsL.map (Value.int .i64)
def isAt (p : Bool) (n : Int) (i : Nat) : Bool := decide (numsL[i]? = some n) && (p == decide (2 ≤ i))
def placeF (p : Bool) (n : Int) : Option Nat := (List.range 18).find? (isAt p n)
def placeI (p : Bool) (n : Int) : Int := match placeF p n with | some k => (k : Int) | none => -1
theorem placeF_lt {p : Bool} {n : Int} {k : Nat} (h : placeF p n = some k) : k < 18 := by
  have := List.mem_of_find?_eq_some h
  simpa using this
theorem placeF_is {p : Bool} {n : Int} {k : Nat} (h : placeF p n = some k) : isAt p n k = true := List.find?_some h
/-- the numbers differ from each other -/
theorem isAt_inj {p : Bool} {n : Int} {i j : Nat} (hi : isAt p n i = true) (hj : isAt p n j = true) : i = j := by
  have key : ∀ i, i < 18 → ∀ j, j < 18 → numsL[i]? = numsL[j]? → i = j := by decide
  simp only [isAt, Bool.and_eq_true, decide_eq_true_eq] at hi hj
  have h1 := (List.getElem?_eq_some_iff.1 hi.1).1
  have h2 := (List.getElem?_eq_some_iff.1 hj.1).1
  exact key i h1 j h2 (hi.1.trans hj.1.symm)
theorem placeF_of {p : Bool} {n : Int} {k : Nat} (h : isAt p n k = true) : placeF p n = some k := by
  have hk : k < 18 := by
    simp only [isAt, Bool.and_eq_true, decide_eq_true_eq] at h
    exact (List.getElem?_eq_some_iff.1 h.1).1
  cases hf : placeF p n with
  | none =>
    have := List.find?_eq_none.1 hf k (by simpa using hk)
    exact absurd h this
  | some j => rw [isAt_inj h (placeF_is hf)]
theorem placeF_none {p : Bool} {n : Int} (h : ∀ j, j < 18 → isAt p n j = false) : placeF p n = none := by
  refine List.find?_eq_none.2 fun j hj => ?_
  rw [h j (by simpa using hj)]
  simp
theorem numbers_c (w : World) : Calls Tryd.prog 23 [].toArray w (fun e w' => e = .returned (.agg numsE.toArray) ∧ Ext [] w w') := by
  refine calls (n := 2) Tryd.func23 rfl Tryd.ntmps23 rfl ?_
  refine CW.sub (H' := SH w [] []) ?_ (Sub.refl _) (fun x hx => SH.start' _ _ hx)
  refine CW.seq (CW.region ?_)
  refine RW.allocA ag49 rfl (fun g0 hg0 hf0 => ?_)
  refine RW.nil (EX.seq (CW.seq (CW.region ?_)))
  refine RW.buildR ba49 rfl rfl rfl ?_
  refine RW.storeA ag49 rfl rfl (by first | exact Upd.head | exact Upd.tail Upd.head | exact Upd.tail (Upd.tail Upd.head) | exact Upd.tail (Upd.tail (Upd.tail Upd.head)) | exact Upd.tail (Upd.tail (Upd.tail (Upd.tail Upd.head))) | exact Upd.tail (Upd.tail (Upd.tail (Upd.tail (Upd.tail Upd.head)))) | exact Upd.tail (Upd.tail (Upd.tail (Upd.tail (Upd.tail (Upd.tail Upd.head)))))) (by first | rfl | exact Enc.len _ _) (by repeat (first | exact Ones.nil | exact Enc.ones _ _ | refine Ones.cons rfl ?_)) (by first | exact Nat.le_of_ble_eq_true rfl | (simp only [Enc.len]; decide)) ?_
  refine RW.nil (EX.seq (CW.ret ?_))
  refine EX.fin1' Tryd.results23 (RV.cellA ag49 rfl (by first | exact Has.head | exact Has.tail Has.head | exact Has.tail (Has.tail Has.head) | exact Has.tail (Has.tail (Has.tail Has.head)) | exact Has.tail (Has.tail (Has.tail (Has.tail Has.head))) | exact Has.tail (Has.tail (Has.tail (Has.tail (Has.tail Has.head)))) | exact Has.tail (Has.tail (Has.tail (Has.tail (Has.tail (Has.tail Has.head)))))) rfl rfl) (fun wz hw => ?_)
  -- mq: done
  exact ⟨rfl, hw.ext⟩
theorem place_c (w : World) (p : Bool) (n : Int) : Calls Tryd.prog 21 [.bool p, .int .i64 n].toArray w (fun e w' => e = .returned (.int .i64 (placeI p n)) ∧ Ext [] w w') := by
  refine calls (n := 23) Tryd.func21 rfl Tryd.ntmps21 rfl ?_
  refine CW.sub (H' := SH w [] []) ?_ (Sub.refl _) (fun x hx => SH.start' _ _ hx)
  refine CW.seq (CW.region ?_)
  refine RW.assign rfl rfl ?_
  refine RW.nil (EX.seq (CW.seq (CW.seq (CW.region ?_))))
  -- mq: op 0: ('Op.call', ('Call.mk', ('Callee.value', ('Operand.func', '23')), ('arr',), ('arr',))) -> slot 7 ("mode.go:24")
  refine RW.call rfl ca23 rfl (fun w' _ => numbers_c w') ?_
  refine RW.move rfl rfl ?_
  refine RW.nil (EX.seq (CW.block ?_))
  -- mq: loop
  refine CW.loop (ι := Nat) (fun i => [(0, .bool p), (1, .int .i64 n), (7, .agg numsE.toArray), (8, .int .i64 (i : Int))]) (fun _ => SH w [] []) (fun i => i ≤ 18 ∧ ∀ j, j < i → isAt p n j = false) (fun i => 18 - i) ?_ ?_
  · exact fun w hw => ⟨0, ⟨by omega, by intro j hj; omega⟩, (by repeat (first | exact Sub.nil | refine Sub.cons (by rfl) ?_)), hw⟩
  · rintro i ⟨hi, hno⟩
    refine CW.seq (CW.region ?_)
    refine RW.lss rfl rfl rfl ?_
    refine RW.nil (EX.seq (CW.seq ?_))
    -- mq: cond
    first | refine CW.condD rfl (fun hlt => ?_) (fun hlt => ?_) | refine CW.cond rfl (fun hlt => ?_) (fun hlt => ?_)
    · skip
      obtain ⟨x, hx⟩ : ∃ x, numsL[i]? = some x := ⟨numsL[i]'(by simp [numsL]; omega), List.getElem?_eq_getElem _⟩
      have hxe : numsE[i]? = some (.int .i64 x) := by rw [numsE, List.getElem?_map, hx]; rfl
      refine CW.skip (EX.seq (CW.seq (CW.block (CW.seq (CW.region ?_)))))
      refine RW.move rfl rfl ?_
      refine RW.ixValS (q := i) Tryd.underlying49 sc3 rfl rfl rfl (by omega) (by omega) hxe ?_
      refine RW.assign rfl rfl ?_
      refine RW.assign rfl rfl ?_
      refine RW.nil (EX.seq (CW.seq (CW.region ?_)))
      refine RW.move rfl rfl ?_
      refine RW.move rfl rfl ?_
      refine RW.eqlI rfl rfl rfl ?_
      refine RW.move rfl rfl ?_
      -- mq: guard slot 15
      have hcast : decide (2 ≤ i) = decide ((2 : Int) ≤ (i : Int)) := by rw [decide_eq_decide]; omega
      have his : isAt p n i = (decide (x = n) && (p == decide ((2 : Int) ≤ (i : Int)))) := by simp only [isAt, hx, hcast, Option.some.injEq]
      refine RW.casesB 15 rfl (fun h1 => ?_) (fun h1 => ?_)
      · skip
        have h1p := of_decide_eq_true h1
        refine RW.guardT rfl rfl h1 ?_
        refine RW.move rfl rfl ?_
        refine RW.guardT rfl rfl h1 ?_
        refine RW.move rfl rfl ?_
        refine RW.guardT rfl rfl h1 ?_
        refine RW.geq rfl rfl rfl ?_
        refine RW.guardT rfl rfl h1 ?_
        refine RW.eqlB Tryd.underlying4 rfl rfl rfl ?_
        refine RW.pickB rfl rfl h1 rfl ?_
        refine RW.nil (EX.seq ?_)
        -- mq: cond
        first | refine CW.condD rfl (fun h2 => ?_) (fun h2 => ?_) | refine CW.cond rfl (fun h2 => ?_) (fun h2 => ?_)
        · skip
          refine CW.seq (CW.region ?_)
          refine RW.move rfl rfl ?_
          refine RW.assign rfl rfl ?_
          refine RW.nil (EX.seq (CW.ret (EX.bkR (EX.seqR (EX.lpR (EX.bkR (EX.seqR ?_)))))))
          refine EX.fin1 Tryd.results21 rfl (fun wz hw => ?_)
          -- mq: done
          refine ⟨?_, hw.ext⟩
          have hp : isAt p n i = true := by rw [his, h1p]; simpa using h2
          rw [placeI, placeF_of hp]
        · skip
          refine CW.skip (EX.bkN (EX.seq (CW.region ?_)))
          refine RW.add rfl rfl rfl (wrap64 (by omega) (by omega)) ?_
          refine RW.move rfl rfl ?_
          refine RW.nil ?_
          -- mq: loopend
          have hp : isAt p n i = false := by rw [his, h1p]; simpa using h2
          refine EX.lpN (i + 1) ⟨by omega, fun j hj => ?_⟩ (by omega) (by repeat (first | exact Sub.nil | refine Sub.cons (by rfl) ?_)) (fun w' hw' => hw')
          rcases Nat.lt_or_ge j i with h | h
          · exact hno j h
          · obtain rfl : j = i := by omega
            exact hp
      · skip
        have h1p := of_decide_eq_false h1
        refine RW.guardF rfl rfl rfl h1 ?_
        refine RW.guardF rfl rfl rfl h1 ?_
        refine RW.guardF rfl rfl rfl h1 ?_
        refine RW.guardF rfl rfl rfl h1 ?_
        refine RW.pickC rfl rfl h1 rfl ?_
        refine RW.nil (EX.seq ?_)
        -- mq: cond
        refine CW.condF rfl (rfl) ?_
        refine CW.skip (EX.bkN (EX.seq (CW.region ?_)))
        refine RW.add rfl rfl rfl (wrap64 (by omega) (by omega)) ?_
        refine RW.move rfl rfl ?_
        refine RW.nil ?_
        -- mq: loopend
        have hp : isAt p n i = false := by rw [his]; simp only [Bool.and_eq_false_iff]; exact .inl (by simpa using h1p)
        refine EX.lpN (i + 1) ⟨by omega, fun j hj => ?_⟩ (by omega) (by repeat (first | exact Sub.nil | refine Sub.cons (by rfl) ?_)) (fun w' hw' => hw')
        rcases Nat.lt_or_ge j i with h | h
        · exact hno j h
        · obtain rfl : j = i := by omega
          exact hp
    · skip
      have h18 : i = 18 := by omega
      subst h18
      refine CW.exit (EX.seqE (EX.lpE (EX.bkE (EX.seq (CW.seq (CW.region ?_))))))
      refine RW.assign rfl rfl ?_
      refine RW.nil (EX.seq (CW.ret ?_))
      refine EX.fin1 Tryd.results21 rfl (fun wz hw => ?_)
      -- mq: done
      refine ⟨?_, hw.ext⟩
      rw [placeI, placeF_none hno]
theorem placeI_range (p : Bool) (n : Int) : -1 ≤ placeI p n ∧ placeI p n < 18 := by
  unfold placeI
  split
  · rename_i k hk
    have := placeF_lt hk
    omega
  · omega
theorem known_c (w : World) (p : Bool) (n : Int) : Calls Tryd.prog 17 [.bool p, .int .i64 n].toArray w (fun e w' => e = .returned (.bool (placeF p n).isSome) ∧ Ext [] w w') := by
  refine calls (n := 9) Tryd.func17 rfl Tryd.ntmps17 rfl ?_
  refine CW.sub (H' := SH w [] []) ?_ (Sub.refl _) (fun x hx => SH.start' _ _ hx)
  refine CW.seq (CW.region ?_)
  refine RW.assign rfl rfl ?_
  refine RW.nil (EX.seq (CW.seq (CW.region ?_)))
  refine RW.move rfl rfl ?_
  refine RW.move rfl rfl ?_
  -- mq: op 2: ('Op.call', ('Call.mk', ('Callee.value', ('Operand.func', '21')), ('arr', ('Operand.tmp', '5'), ('Operand.tmp', '6')), ('arr', '4', '3'))) -> slot 7 ("mode.go:36")
  refine RW.call rfl ca21 rfl (fun w' _ => place_c w' p n) ?_
  refine RW.geq rfl rfl rfl ?_
  refine RW.assign rfl rfl ?_
  refine RW.nil (EX.seq (CW.ret ?_))
  refine EX.fin1 Tryd.results17 rfl (fun wz hw => ?_)
  -- mq: done
  refine ⟨?_, hw.ext⟩
  unfold placeI
  cases placeF p n with
  | some k => simp
  | none => simp
/-- a set of modes: bits -/
abbrev setV (b : Nat) : Value := .agg #[.int .u32 (b : Int)]
def withF (b : Nat) (p : Bool) (n : Int) (on : Bool) : Nat :=
  match placeF p n with
  | none => b
  | some k => if on then b ||| 2 ^ k else b &&& (4294967295 - 2 ^ k)
theorem withF_lt {b : Nat} (h : b < 4294967296) (p : Bool) (n : Int) (on : Bool) : withF b p n on < 4294967296 := by
  unfold withF
  split
  · exact h
  · rename_i k hk
    have := placeF_lt hk
    split
    · exact Nat.or_lt_two_pow (n := 32) h (Nat.pow_lt_pow_right (by decide) (by omega))
    · exact Nat.lt_of_le_of_lt Nat.and_le_left h
theorem shl1 {k : Nat} (hk : k < 18) : IntKind.u32.wrap (1 * 2 ^ min ((k : Int)).toNat IntKind.u32.bits) = ((2 ^ k : Nat) : Int) := by
  have hp2 : 2 ^ k < 4294967296 := Nat.pow_lt_pow_right (n := 32) (by decide) (by omega)
  rw [Int.toNat_natCast, Nat.min_eq_left (by simp only [IntKind.bits]; omega), Int.one_mul]
  have : ((2 : Int) ^ k) = ((2 ^ k : Nat) : Int) := by simp
  rw [this]
  exact wrapN32 (Int.natCast_nonneg _) (Int.ofNat_lt.2 hp2)
theorem with_c (w : World) (b : Nat) (hb : b < 4294967296) (p : Bool) (n : Int) (on : Bool) :
    Calls Tryd.prog 10 [setV b, .bool p, .int .i64 n, .bool on].toArray w (fun e w' => e = .returned (setV (withF b p n on)) ∧ Ext [] w w') := by
  have hpr := placeI_range p n
  refine calls (n := 31) Tryd.func10 rfl Tryd.ntmps10 rfl ?_
  refine CW.sub (H' := SH w [] []) ?_ (Sub.refl _) (fun x hx => SH.start' _ _ hx)
  refine CW.seq (CW.region ?_)
  refine RW.boxA rfl rfl (fun g4 hg4 hf4 => ?_)
  refine RW.allocA ag26 rfl (fun g8 hg8 hf8 => ?_)
  refine RW.nil (EX.seq (CW.seq (CW.region ?_)))
  refine RW.move rfl rfl ?_
  refine RW.move rfl rfl ?_
  -- mq: op 2: ('Op.call', ('Call.mk', ('Callee.value', ('Operand.func', '21')), ('arr', ('Operand.tmp', '10'), ('Operand.tmp', '11')), ('arr', '4', '3'))) -> slot 12 ("mode.go:40")
  refine RW.call rfl ca21 rfl (fun w' _ => place_c w' p n) ?_
  refine RW.assign rfl rfl ?_
  refine RW.nil (EX.seq (CW.seq (CW.block (CW.seq (CW.region ?_)))))
  refine RW.move rfl rfl ?_
  refine RW.lss rfl rfl rfl ?_
  refine RW.assign rfl rfl ?_
  refine RW.nil (EX.seq ?_)
  -- mq: cond
  first | refine CW.condD rfl (fun h1 => ?_) (fun h1 => ?_) | refine CW.cond rfl (fun h1 => ?_) (fun h1 => ?_)
  · skip
    refine CW.skip (EX.bkN (EX.seq (CW.seq (CW.region ?_))))
    refine RW.loadBA ag26 rfl rfl (by first | exact Has.head | exact Has.tail Has.head | exact Has.tail (Has.tail Has.head) | exact Has.tail (Has.tail (Has.tail Has.head)) | exact Has.tail (Has.tail (Has.tail (Has.tail Has.head))) | exact Has.tail (Has.tail (Has.tail (Has.tail (Has.tail Has.head)))) | exact Has.tail (Has.tail (Has.tail (Has.tail (Has.tail (Has.tail Has.head)))))) rfl rfl ?_
    refine RW.storeA ag26 rfl rfl (by first | exact Upd.head | exact Upd.tail Upd.head | exact Upd.tail (Upd.tail Upd.head) | exact Upd.tail (Upd.tail (Upd.tail Upd.head)) | exact Upd.tail (Upd.tail (Upd.tail (Upd.tail Upd.head))) | exact Upd.tail (Upd.tail (Upd.tail (Upd.tail (Upd.tail Upd.head)))) | exact Upd.tail (Upd.tail (Upd.tail (Upd.tail (Upd.tail (Upd.tail Upd.head)))))) (by first | rfl | exact Enc.len _ _) (by repeat (first | exact Ones.nil | exact Enc.ones _ _ | refine Ones.cons rfl ?_)) (by first | exact Nat.le_of_ble_eq_true rfl | (simp only [Enc.len]; decide)) ?_
    refine RW.nil (EX.seq (CW.ret ?_))
    refine EX.fin1' Tryd.results10 (RV.cellA ag26 rfl (by first | exact Has.head | exact Has.tail Has.head | exact Has.tail (Has.tail Has.head) | exact Has.tail (Has.tail (Has.tail Has.head)) | exact Has.tail (Has.tail (Has.tail (Has.tail Has.head))) | exact Has.tail (Has.tail (Has.tail (Has.tail (Has.tail Has.head)))) | exact Has.tail (Has.tail (Has.tail (Has.tail (Has.tail (Has.tail Has.head)))))) rfl rfl) (fun wz hw => ?_)
    -- mq: done
    refine ⟨?_, hw.ext⟩
    unfold withF
    unfold placeI at h1
    cases hf : placeF p n with
    | none => rfl
    | some k => rw [hf] at h1; simp at h1; omega
  · skip
    obtain ⟨k, hk⟩ : ∃ k, placeF p n = some k := by
      unfold placeI at h1
      cases hf : placeF p n with
      | none => rw [hf] at h1; simp at h1
      | some k => exact ⟨k, rfl⟩
    have hki : placeI p n = (k : Int) := by rw [placeI, hk]
    have hk18 := placeF_lt hk
    rw [hki]
    refine CW.seq (CW.region ?_)
    refine RW.move rfl rfl ?_
    refine RW.assign rfl rfl ?_
    refine RW.nil (EX.seq ?_)
    -- mq: cond
    have hp2 : 2 ^ k < 4294967296 := Nat.pow_lt_pow_right (n := 32) (by decide) (by omega)
    have hor : b ||| 2 ^ k < 4294967296 := Nat.or_lt_two_pow (n := 32) hb hp2
    have han : b &&& (4294967295 - 2 ^ k) < 4294967296 := Nat.lt_of_le_of_lt Nat.and_le_left hb
    first | refine CW.condD rfl (fun h2 => ?_) (fun h2 => ?_) | refine CW.cond rfl (fun h2 => ?_) (fun h2 => ?_)
    · skip
      refine CW.drawS [true, true, true, true, true, true, false] 0 (SH w [] [blk g8 [.int .u32 0] 26, blk g4 [.int .u32 (b : Int)] 26]) mixed (by kernel_rfl) (fun _ hw => hw.drew) (fun _ h => by first | exact h | (have h1 := h.rem Rem.head; first | exact h1 | (have h2 := h1.rem Rem.head; first | exact h2 | (have h3 := h2.rem Rem.head; exact h3)))) (by repeat (first | exact NoP.fin | exact NoP.jn | refine NoP.sq ?_ | refine NoP.bk ?_ | refine NoP.lp ?_)) ?_
      refine QuW.cons rfl (fun wq hq => (RW.fieldB fl26x0 rfl rfl RW.jn)) ?_
      refine QuW.cons rfl (fun wq hq => (RW.load1 sc24 rfl rfl (fun w1 e1 => by subst e1; exact hq.blk_cell (by first | exact Has.head | exact Has.tail Has.head | exact Has.tail (Has.tail Has.head) | exact Has.tail (Has.tail (Has.tail Has.head)) | exact Has.tail (Has.tail (Has.tail (Has.tail Has.head))) | exact Has.tail (Has.tail (Has.tail (Has.tail (Has.tail Has.head)))) | exact Has.tail (Has.tail (Has.tail (Has.tail (Has.tail (Has.tail Has.head)))))) rfl) RW.jn)) ?_
      refine QuW.cons rfl (fun wq hq => (RW.move rfl rfl RW.jn)) ?_
      refine QuW.cons rfl (fun wq hq => (RW.shlN (r := ((2 ^ k : Nat) : Int)) rfl rfl rfl (by omega) (shl1 hk18) RW.jn)) ?_
      refine QuW.cons rfl (fun wq hq => (RW.or_ (r := ((b ||| 2 ^ k : Nat) : Int)) rfl rfl rfl (or_eq (m := b) (n := 2 ^ k) rfl rfl hb hp2 (wrapN32 (Int.natCast_nonneg _) (Int.ofNat_lt.2 hor))) RW.jn)) ?_
      refine QuW.cons rfl (fun wq hq => (RW.fieldB fl26x0 rfl rfl RW.jn)) ?_
      refine QuW.skip ?_
      refine QuW.nil ?_
      refine SpW.hard ?_
      refine RW.store1 sc24 rfl rfl (by first | exact Upd.head | exact Upd.tail Upd.head | exact Upd.tail (Upd.tail Upd.head) | exact Upd.tail (Upd.tail (Upd.tail Upd.head)) | exact Upd.tail (Upd.tail (Upd.tail (Upd.tail Upd.head))) | exact Upd.tail (Upd.tail (Upd.tail (Upd.tail (Upd.tail Upd.head)))) | exact Upd.tail (Upd.tail (Upd.tail (Upd.tail (Upd.tail (Upd.tail Upd.head)))))) rfl (by first | exact Nat.le_of_ble_eq_true rfl | simp) ?_
      refine RW.nil (EX.bkN (EX.seq (CW.seq (CW.region ?_))))
      refine RW.loadBA ag26 rfl rfl (by first | exact Has.head | exact Has.tail Has.head | exact Has.tail (Has.tail Has.head) | exact Has.tail (Has.tail (Has.tail Has.head)) | exact Has.tail (Has.tail (Has.tail (Has.tail Has.head))) | exact Has.tail (Has.tail (Has.tail (Has.tail (Has.tail Has.head)))) | exact Has.tail (Has.tail (Has.tail (Has.tail (Has.tail (Has.tail Has.head)))))) rfl rfl ?_
      refine RW.storeA ag26 rfl rfl (by first | exact Upd.head | exact Upd.tail Upd.head | exact Upd.tail (Upd.tail Upd.head) | exact Upd.tail (Upd.tail (Upd.tail Upd.head)) | exact Upd.tail (Upd.tail (Upd.tail (Upd.tail Upd.head))) | exact Upd.tail (Upd.tail (Upd.tail (Upd.tail (Upd.tail Upd.head)))) | exact Upd.tail (Upd.tail (Upd.tail (Upd.tail (Upd.tail (Upd.tail Upd.head)))))) (by first | rfl | exact Enc.len _ _) (by repeat (first | exact Ones.nil | exact Enc.ones _ _ | refine Ones.cons rfl ?_)) (by first | exact Nat.le_of_ble_eq_true rfl | (simp only [Enc.len]; decide)) ?_
      refine RW.nil (EX.seq (CW.ret ?_))
      refine EX.fin1' Tryd.results10 (RV.cellA ag26 rfl (by first | exact Has.head | exact Has.tail Has.head | exact Has.tail (Has.tail Has.head) | exact Has.tail (Has.tail (Has.tail Has.head)) | exact Has.tail (Has.tail (Has.tail (Has.tail Has.head))) | exact Has.tail (Has.tail (Has.tail (Has.tail (Has.tail Has.head)))) | exact Has.tail (Has.tail (Has.tail (Has.tail (Has.tail (Has.tail Has.head)))))) rfl rfl) (fun wz hw => ?_)
      -- mq: done
      refine ⟨?_, hw.ext⟩
      rw [withF, hk, h2]
      rfl
    · skip
      refine CW.drawS [true, true, true, true, true, true, false] 0 (SH w [] [blk g8 [.int .u32 0] 26, blk g4 [.int .u32 (b : Int)] 26]) mixed (by kernel_rfl) (fun _ hw => hw.drew) (fun _ h => by first | exact h | (have h1 := h.rem Rem.head; first | exact h1 | (have h2 := h1.rem Rem.head; first | exact h2 | (have h3 := h2.rem Rem.head; exact h3)))) (by repeat (first | exact NoP.fin | exact NoP.jn | refine NoP.sq ?_ | refine NoP.bk ?_ | refine NoP.lp ?_)) ?_
      refine QuW.cons rfl (fun wq hq => (RW.fieldB fl26x0 rfl rfl RW.jn)) ?_
      refine QuW.cons rfl (fun wq hq => (RW.load1 sc24 rfl rfl (fun w1 e1 => by subst e1; exact hq.blk_cell (by first | exact Has.head | exact Has.tail Has.head | exact Has.tail (Has.tail Has.head) | exact Has.tail (Has.tail (Has.tail Has.head)) | exact Has.tail (Has.tail (Has.tail (Has.tail Has.head))) | exact Has.tail (Has.tail (Has.tail (Has.tail (Has.tail Has.head)))) | exact Has.tail (Has.tail (Has.tail (Has.tail (Has.tail (Has.tail Has.head)))))) rfl) RW.jn)) ?_
      refine QuW.cons rfl (fun wq hq => (RW.move rfl rfl RW.jn)) ?_
      refine QuW.cons rfl (fun wq hq => (RW.shlN (r := ((2 ^ k : Nat) : Int)) rfl rfl rfl (by omega) (shl1 hk18) RW.jn)) ?_
      refine QuW.cons rfl (fun wq hq => (RW.andNot_ (r := ((b &&& (4294967295 - 2 ^ k) : Nat) : Int)) rfl rfl rfl (andNot_eq (m := b) (n := 2 ^ k) rfl rfl hb hp2 (wrapN32 (Int.natCast_nonneg _) (Int.ofNat_lt.2 han))) RW.jn)) ?_
      refine QuW.cons rfl (fun wq hq => (RW.fieldB fl26x0 rfl rfl RW.jn)) ?_
      refine QuW.skip ?_
      refine QuW.nil ?_
      refine SpW.hard ?_
      refine RW.store1 sc24 rfl rfl (by first | exact Upd.head | exact Upd.tail Upd.head | exact Upd.tail (Upd.tail Upd.head) | exact Upd.tail (Upd.tail (Upd.tail Upd.head)) | exact Upd.tail (Upd.tail (Upd.tail (Upd.tail Upd.head))) | exact Upd.tail (Upd.tail (Upd.tail (Upd.tail (Upd.tail Upd.head)))) | exact Upd.tail (Upd.tail (Upd.tail (Upd.tail (Upd.tail (Upd.tail Upd.head)))))) rfl (by first | exact Nat.le_of_ble_eq_true rfl | simp) ?_
      refine RW.nil (EX.bkN (EX.seq (CW.seq (CW.region ?_))))
      refine RW.loadBA ag26 rfl rfl (by first | exact Has.head | exact Has.tail Has.head | exact Has.tail (Has.tail Has.head) | exact Has.tail (Has.tail (Has.tail Has.head)) | exact Has.tail (Has.tail (Has.tail (Has.tail Has.head))) | exact Has.tail (Has.tail (Has.tail (Has.tail (Has.tail Has.head)))) | exact Has.tail (Has.tail (Has.tail (Has.tail (Has.tail (Has.tail Has.head)))))) rfl rfl ?_
      refine RW.storeA ag26 rfl rfl (by first | exact Upd.head | exact Upd.tail Upd.head | exact Upd.tail (Upd.tail Upd.head) | exact Upd.tail (Upd.tail (Upd.tail Upd.head)) | exact Upd.tail (Upd.tail (Upd.tail (Upd.tail Upd.head))) | exact Upd.tail (Upd.tail (Upd.tail (Upd.tail (Upd.tail Upd.head)))) | exact Upd.tail (Upd.tail (Upd.tail (Upd.tail (Upd.tail (Upd.tail Upd.head)))))) (by first | rfl | exact Enc.len _ _) (by repeat (first | exact Ones.nil | exact Enc.ones _ _ | refine Ones.cons rfl ?_)) (by first | exact Nat.le_of_ble_eq_true rfl | (simp only [Enc.len]; decide)) ?_
      refine RW.nil (EX.seq (CW.ret ?_))
      refine EX.fin1' Tryd.results10 (RV.cellA ag26 rfl (by first | exact Has.head | exact Has.tail Has.head | exact Has.tail (Has.tail Has.head) | exact Has.tail (Has.tail (Has.tail Has.head)) | exact Has.tail (Has.tail (Has.tail (Has.tail Has.head))) | exact Has.tail (Has.tail (Has.tail (Has.tail (Has.tail Has.head)))) | exact Has.tail (Has.tail (Has.tail (Has.tail (Has.tail (Has.tail Has.head)))))) rfl rfl) (fun wz hw => ?_)
      -- mq: done
      refine ⟨?_, hw.ext⟩
      rw [withF, hk]
      have : on = false := by simpa using h2
      rw [this]
      rfl
/-- is a bit set? -/
def bitF (b k : Nat) : Bool := decide (b / 2 ^ k % 2 = 1)
def isF (b : Nat) (p : Bool) (n : Int) : Bool := match placeF p n with | some k => bitF b k | none => false
theorem shr_and (b k : Nat) (hb : b < 4294967296) : IntKind.u32.wrap ((BitVec.ofInt IntKind.u32.bits ((b : Int) / 2 ^ min ((k : Int)).toNat 32) &&& BitVec.ofInt IntKind.u32.bits 1).toNat : Int) = ((b / 2 ^ min k 32 % 2 : Nat) : Int) := by
  have h1 : b / 2 ^ min k 32 < 4294967296 := Nat.lt_of_le_of_lt (Nat.div_le_self _ _) hb
  refine and_eq (m := b / 2 ^ min k 32) (n := 1) ?_ rfl h1 (by decide) ?_
  · rw [Int.toNat_natCast, Int.natCast_ediv]; simp
  · rw [Nat.and_one_is_mod]
    exact wrapN32 (by omega) (by omega)
theorem is_c (w : World) (b : Nat) (hb : b < 4294967296) (p : Bool) (n : Int) :
    Calls Tryd.prog 15 [setV b, .bool p, .int .i64 n].toArray w (fun e w' => e = .returned (.bool (isF b p n)) ∧ Ext [] w w') := by
  refine calls (n := 21) Tryd.func15 rfl Tryd.ntmps15 rfl ?_
  refine CW.sub (H' := SH w [] []) ?_ (Sub.refl _) (fun x hx => SH.start' _ _ hx)
  refine CW.seq (CW.region ?_)
  refine RW.boxA rfl rfl (fun g3 hg3 hf3 => ?_)
  refine RW.assign rfl rfl ?_
  refine RW.nil (EX.seq (CW.seq (CW.region ?_)))
  refine RW.move rfl rfl ?_
  refine RW.move rfl rfl ?_
  -- mq: op 2: ('Op.call', ('Call.mk', ('Callee.value', ('Operand.func', '21')), ('arr', ('Operand.tmp', '8'), ('Operand.tmp', '9')), ('arr', '4', '3'))) -> slot 10 ("mode.go:53")
  refine RW.call rfl ca21 rfl (fun w' _ => place_c w' p n) ?_
  refine RW.assign rfl rfl ?_
  refine RW.nil (EX.seq (CW.seq (CW.region ?_)))
  refine RW.move rfl rfl ?_
  refine RW.geq rfl rfl rfl ?_
  refine RW.move rfl rfl ?_
  -- mq: guard slot 13
  cases hf : placeF p n with
  | none =>
    have hki : placeI p n = -1 := by rw [placeI, hf]
    rw [hki]
    refine RW.guardF rfl rfl rfl rfl ?_
    refine RW.guardF rfl rfl rfl rfl ?_
    refine RW.guardF rfl rfl rfl rfl ?_
    refine RW.guardF rfl rfl rfl rfl ?_
    refine RW.guardF rfl rfl rfl rfl ?_
    refine RW.guardF rfl rfl rfl rfl ?_
    refine RW.pickC rfl rfl rfl rfl ?_
    refine RW.assign rfl rfl ?_
    refine RW.nil (EX.seq (CW.ret ?_))
    refine EX.fin1 Tryd.results15 rfl (fun wz hw => ?_)
    -- mq: done
    exact ⟨by rw [isF, hf], hw.ext⟩
  | some k =>
    have hki : placeI p n = (k : Int) := by rw [placeI, hf]
    have hk18 := placeF_lt hf
    rw [hki]
    refine RW.guardT rfl rfl (by simp) ?_
    refine RW.fieldB fl26x0 rfl rfl ?_
    refine RW.guardT rfl rfl (by simp) ?_
    refine RW.loadB1 sc24 rfl rfl (by first | exact Has.head | exact Has.tail Has.head | exact Has.tail (Has.tail Has.head) | exact Has.tail (Has.tail (Has.tail Has.head)) | exact Has.tail (Has.tail (Has.tail (Has.tail Has.head))) | exact Has.tail (Has.tail (Has.tail (Has.tail (Has.tail Has.head)))) | exact Has.tail (Has.tail (Has.tail (Has.tail (Has.tail (Has.tail Has.head)))))) rfl ?_
    refine RW.guardT rfl rfl (by simp) ?_
    refine RW.move rfl rfl ?_
    refine RW.guardT rfl rfl (by simp) ?_
    refine RW.shrN rfl rfl rfl (by omega) rfl ?_
    refine RW.guardT rfl rfl (by simp) ?_
    refine RW.and_ rfl rfl rfl (shr_and b k hb) ?_
    refine RW.guardT rfl rfl (by simp) ?_
    refine RW.eqlI rfl rfl rfl ?_
    refine RW.pickB rfl rfl (by simp) rfl ?_
    refine RW.assign rfl rfl ?_
    refine RW.nil (EX.seq (CW.ret ?_))
    refine EX.fin1 Tryd.results15 rfl (fun wz hw => ?_)
    -- mq: done
    refine ⟨?_, hw.ext⟩
    have hb1 : decide (((b / 2 ^ k % 2 : Nat) : Int) = 1) = bitF b k := by
      rw [bitF, decide_eq_decide]
      exact Int.ofNat_inj (n := 1)
    rw [isF, hf, Nat.min_eq_left (by omega), hb1]
end Go.Proofs.YtpjehphcpegajaaDoor.Mq
