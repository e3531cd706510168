/- tape: kinds, hex, the reference's tables; bytes -/
import Derived.Test.YtnpafpnameleaaaDoorTs
import Derived.Test.YtnpafpnameleaaaDoorTn
import Derived.Test.YtnpafpnameleaaaDoorVals
import Derived.Test.YtnpafpnameleaaaDoorCut
namespace Go.Proofs.YtnpafpnameleaaaDoor.Mq
open Go Go.RowKit Go.Proofs

section
variable {P : Program} {n : Nat} {ops : Array Oper} {Q : Post} {rest : List Oper} {l : Fr} {d : Nat} {ty : TypeId} {pos : String} {af : Array Edge} {b : World} {S : List Nat} {cs : List Chunk}
theorem RW.makeE {x y : Operand} {t e sz by_ : Nat} {z : List Value} {i : Int} (m : Nat) (ht : SlT P t e sz by_ z) (hd : Nat.blt d n = true) (hx : ev l x = some (.int .i64 0)) (hy : ev l y = some (.int .i64 i)) (hm : i = (m : Int)) (h63 : m ≤ maxLen) (hbytes : by_ * m ≤ 281474976710656)
    (h : ∀ g, b.heap.size ≤ g → (∀ k ∈ feet cs, k < g) → RW P n ops Q rest ((d, .slice (some ⟨g, 0, none⟩) 0 m) :: l) (SH b S (own e sz (.slice (some ⟨g, 0, none⟩) 0 m) 0 [] :: cs))) :
    RW P n ops Q (⟨some d, .makeSlice t x y, ty, pos, af, none⟩ :: rest) l (SH b S cs) := by
  subst hm
  obtain ⟨inf, zv, hi1, hz, hzc, hs, hby⟩ := ht.inf
  refine RW.step hd fun ρ w hρ hw => ?_
  have hb' : (inf.bytes : Int) * (m : Int) ≤ 281474976710656 := by
    rw [hby, ← Int.natCast_mul]; omega
  have h63' : (m : Int) ≤ 9223372036854775807 := by simp only [maxLen] at h63; omega
  have hr := run_make (P := P) w t e inf zv ht.und hi1 hz .i64 .i64 0 m (by omega) (by omega) hb' h63'
  have hzz : zv.cells = z.toArray := by rw [← hzc]
  simp only [Int.toNat_natCast, hs, hzz, madeCells_zeros z m sz ht.len] at hr
  refine ⟨.slice (some ⟨w.heap.size, 0, none⟩) 0 m, w.alloc (.cells (zeros z m).toArray e), ?_, (h w.heap.size hw.ext.size (fun k hk => hw.lt hk)).at (hw.add (Ext.alloc _ _ _) ?_ (by simp [own, Value.ownBlock]) (by simp [own, Value.ownBlock]))⟩
  · have hr2 : (Instr.makeSlice t (.int .i64 0) (.int .i64 (m : Int))).run P w = .ok (.slice (some ⟨w.heap.size, 0, none⟩) 0 m) (w.alloc (.cells (zeros z m).toArray e)) := by simpa using hr
    simp [execOp, hρ x _ hx, hρ y _ hy, hr2]
  · have hlen : (zeros z m).length = m * sz := by rw [zeros_length, ht.len]
    exact ⟨by simp, .inr ⟨w.heap.size, m, (zeros z m).toArray, rfl, Nat.zero_le _, heap_alloc_new w _, Nat.zero_le _, h63, by simpa using hlen, by simp⟩⟩
end
abbrev kindV (k : Nat) : List Value := [.string (bs (wordsK.getD k [])), .int .i64 (numsK k : Int), .bool (hasK k)]
def kindsV : List Value := kindV 0 ++ kindV 1 ++ kindV 2 ++ kindV 3 ++ kindV 4 ++ kindV 5 ++ kindV 6
theorem kinds_c (w : World) : Calls Tryd.prog 18 [].toArray w (fun e w' => e = .returned (.agg kindsV.toArray) ∧ Ext [] w w') := by
  refine calls (n := 9) Tryd.func18 rfl Tryd.ntmps18 rfl ?_
  refine CW.sub (H' := SH w [] []) ?_ (Sub.refl _) (fun x hx => SH.start' _ _ hx)
  refine CW.seq (CW.region ?_)
  refine RW.allocA ag48 rfl (fun g0 hg0 hf0 => ?_)
  refine RW.nil (EX.seq (CW.seq (CW.region ?_)))
  refine RW.buildS bu47 rfl rfl rfl ?_
  refine RW.buildS bu47 rfl rfl rfl ?_
  refine RW.buildS bu47 rfl rfl rfl ?_
  refine RW.buildS bu47 rfl rfl rfl ?_
  refine RW.buildS bu47 rfl rfl rfl ?_
  refine RW.buildS bu47 rfl rfl rfl ?_
  refine RW.buildS bu47 rfl rfl rfl ?_
  refine RW.buildR ba48 rfl rfl rfl ?_
  refine RW.storeA ag48 rfl rfl (by first | exact Upd.head | exact Upd.tail Upd.head | exact Upd.tail (Upd.tail Upd.head) | exact Upd.tail (Upd.tail (Upd.tail Upd.head)) | exact Upd.tail (Upd.tail (Upd.tail (Upd.tail Upd.head))) | exact Upd.tail (Upd.tail (Upd.tail (Upd.tail (Upd.tail Upd.head)))) | exact Upd.tail (Upd.tail (Upd.tail (Upd.tail (Upd.tail (Upd.tail Upd.head)))))) (by first | rfl | exact Enc.len _ _) (by repeat (first | exact Ones.nil | exact Enc.ones _ _ | refine Ones.cons rfl ?_)) (by first | exact Nat.le_of_ble_eq_true rfl | (simp only [Enc.len]; decide)) ?_
  refine RW.nil (EX.seq (CW.ret ?_))
  refine EX.fin1' Tryd.results18 (RV.cellA ag48 rfl (by first | exact Has.head | exact Has.tail Has.head | exact Has.tail (Has.tail Has.head) | exact Has.tail (Has.tail (Has.tail Has.head)) | exact Has.tail (Has.tail (Has.tail (Has.tail Has.head))) | exact Has.tail (Has.tail (Has.tail (Has.tail (Has.tail Has.head)))) | exact Has.tail (Has.tail (Has.tail (Has.tail (Has.tail (Has.tail Has.head)))))) rfl rfl) (fun wz hw => ?_)
  -- mq: done
  exact ⟨rfl, hw.ext⟩
theorem words_c (w : World) : Calls Tryd.prog 22 [].toArray w (RetSl EStr w wordsK) := by
  refine calls (n := 2) Tryd.func22 rfl Tryd.ntmps22 rfl ?_
  refine CW.sub (H' := SH w [] []) ?_ (Sub.refl _) (fun x hx => SH.start' _ _ hx)
  refine CW.seq (CW.region ?_)
  refine RW.assign rfl rfl ?_
  refine RW.nil (EX.seq (CW.seq (CW.region ?_)))
  refine RW.buildSlc sl50 rfl rfl rfl rfl (fun g1 hg1 hf1 => ?_)
  refine RW.assign rfl rfl ?_
  refine RW.nil (EX.seq (CW.ret ?_))
  refine EX.fin1 Tryd.results22 rfl (fun wz hw => ?_)
  -- mq: done
  have hrd := Rd.of_blk (E := EStr) (L := wordsK) hw Has.head rfl (by decide)
  exact ⟨_, _, _, rfl, hw.ext, hrd.weak (fun k hk => by rw [hk]; assumption)⟩
theorem nums_c (w : World) (k : Nat) (h : k < 7) : Calls Tryd.prog 23 [.int .i64 (k : Int)].toArray w (fun e w' => e = .returned (.int .i64 (numsK k : Int)) ∧ Ext [] w w') := by
  have hn : ([.int .i64 0, .int .i64 2, .int .i64 2, .int .i64 2, .int .i64 1, .int .i64 1, .int .i64 2] : List Value)[k]? = some (.int .i64 (numsK k : Int)) := by
    rcases (show k = 0 ∨ k = 1 ∨ k = 2 ∨ k = 3 ∨ k = 4 ∨ k = 5 ∨ k = 6 by omega) with rfl | rfl | rfl | rfl | rfl | rfl | rfl <;> rfl
  refine calls (n := 7) Tryd.func23 rfl Tryd.ntmps23 rfl ?_
  refine CW.sub (H' := SH w [] []) ?_ (Sub.refl _) (fun x hx => SH.start' _ _ hx)
  refine CW.seq (CW.region ?_)
  refine RW.assign rfl rfl ?_
  refine RW.nil (EX.seq (CW.seq ?_))
  -- mq: region
  refine CW.region ?_
  refine RW.buildSlc sl76 rfl rfl rfl rfl (fun g3 hg3 hf3 => ?_)
  refine RW.move rfl rfl ?_
  refine RW.ixAddr (q := k) sl76 rfl rfl rfl (by first | rfl | assumption) (by omega) (by omega) ?_
  refine RW.load1 sc3 rfl rfl (fun w' hw' => by rw [Addr.add_lit]; exact hw'.blk_cell Has.head (by rw [Nat.zero_add, show k * 1 = k from Nat.mul_one k]; refine Eq.trans ?_ hn; rfl)) ?_
  refine RW.assign rfl rfl ?_
  refine RW.nil (EX.seq (CW.ret ?_))
  refine EX.fin1 Tryd.results23 rfl (fun wz hw => ?_)
  -- mq: done
  exact ⟨rfl, hw.ext⟩
theorem has_c (w : World) (k : Nat) (h : k < 7) : Calls Tryd.prog 24 [.int .i64 (k : Int)].toArray w (fun e w' => e = .returned (.bool (hasK k)) ∧ Ext [] w w') := by
  refine calls (n := 9) Tryd.func24 rfl Tryd.ntmps24 rfl ?_
  refine CW.sub (H' := SH w [] []) ?_ (Sub.refl _) (fun x hx => SH.start' _ _ hx)
  refine CW.seq (CW.region ?_)
  refine RW.assign rfl rfl ?_
  refine RW.nil (EX.seq (CW.seq (CW.region ?_)))
  refine RW.move rfl rfl ?_
  refine RW.eqlI rfl rfl rfl ?_
  refine RW.move rfl rfl ?_
  -- mq: guard slot 5
  refine RW.casesB 5 rfl (fun h1 => ?_) (fun h1 => ?_)
  · skip
    have h1p := of_decide_eq_true h1
    refine RW.guardF rfl rfl rfl h1 ?_
    refine RW.guardF rfl rfl rfl h1 ?_
    refine RW.pickB rfl rfl h1 rfl ?_
    refine RW.assign rfl rfl ?_
    refine RW.nil (EX.seq (CW.ret ?_))
    refine EX.fin1 Tryd.results24 rfl (fun wz hw => ?_)
    -- mq: done
    refine ⟨?_, hw.ext⟩
    rw [hasK, decide_eq_true (by omega)]
  · skip
    have h1p := of_decide_eq_false h1
    refine RW.guardT rfl rfl h1 ?_
    refine RW.move rfl rfl ?_
    refine RW.guardT rfl rfl h1 ?_
    refine RW.eqlI rfl rfl rfl ?_
    refine RW.pickC rfl rfl h1 rfl ?_
    refine RW.assign rfl rfl ?_
    refine RW.nil (EX.seq (CW.ret ?_))
    refine EX.fin1 Tryd.results24 rfl (fun wz hw => ?_)
    -- mq: done
    refine ⟨?_, hw.ext⟩
    unfold hasK
    congr 2
    rw [decide_eq_decide]; omega
theorem hexT_two {s : List UInt8} {k : Nat} {c : UInt8} (h : s[k]? = some c) : hexT (s.take (k + 1)) = hexT (s.take k) ++ [hexDig (c.toNat / 16), hexDig (c.toNat % 16)] := by
  unfold hexT
  rw [hexP_take h, hex2]; simp
theorem and15 (c : UInt8) : IntKind.u8.wrap ((BitVec.ofInt IntKind.u8.bits (c.toNat : Int) &&& BitVec.ofInt IntKind.u8.bits 15).toNat : Int) = ((c.toNat % 16 : Nat) : Int) :=
  and_eq (m := c.toNat) (n := 15) rfl rfl (UInt8.toNat_lt c) (by decide) (by
    have e : c.toNat &&& 15 = c.toNat % 16 := Nat.and_two_pow_sub_one_eq_mod c.toNat 4
    rw [e, wrapN8 (by omega) (by omega)])
theorem hex_c (w : World) (s : List UInt8) (hs : s.length ≤ 1000000) :
    Calls Tryd.prog 20 [.string (bs s)].toArray w (fun e w' => e = .returned (.string (bs (hexT s))) ∧ Ext [] w w') := by
  refine calls (n := 27) Tryd.func20 rfl Tryd.ntmps20 rfl ?_
  refine CW.sub (H' := SH w [] []) ?_ (Sub.refl _) (fun x hx => SH.start' _ _ hx)
  refine CW.seq (CW.region ?_)
  refine RW.assign rfl rfl ?_
  refine RW.nil (EX.seq (CW.seq (CW.region ?_)))
  refine RW.buildSlc sl41 rfl rfl rfl rfl (fun g5 hg5 hf5 => ?_)
  refine RW.assign rfl rfl ?_
  refine RW.nil (EX.seq (CW.seq (CW.seq ?_)))
  -- mq: region
  refine CW.ownBlk (m := 1) (sz := 1) (by first | exact Upd.head | exact Upd.tail Upd.head | exact Upd.tail (Upd.tail Upd.head) | exact Upd.tail (Upd.tail (Upd.tail Upd.head)) | exact Upd.tail (Upd.tail (Upd.tail (Upd.tail Upd.head))) | exact Upd.tail (Upd.tail (Upd.tail (Upd.tail (Upd.tail Upd.head)))) | exact Upd.tail (Upd.tail (Upd.tail (Upd.tail (Upd.tail (Upd.tail Upd.head)))))) rfl (by decide) ?_
  refine CW.region ?_
  refine RW.assign rfl rfl ?_
  refine RW.nil (EX.seq (CW.block ?_))
  -- mq: loop
  refine CW.loop (ι := Nat × Value) (fun t => [(0, .string (bs s)), (3, t.2), (4, .int .i64 (t.1 : Int))]) (fun t => SH w [] [own 5 1 t.2 (hexT (s.take t.1)).length (EU8.all (hexT (s.take t.1)))]) (fun t => t.1 ≤ s.length) (fun t => s.length - t.1) ?_ ?_
  · exact fun w' hw' => ⟨(0, _), Nat.zero_le _, (by repeat (first | exact Sub.nil | refine Sub.cons (by rfl) ?_)), hw'⟩
  · rintro ⟨i, v⟩ hi
    dsimp only at hi ⊢
    have hl1 := hexP_len (s.take i)
    have hl3 : (s.take i).length = i := by rw [List.length_take]; omega
    have hl4 : (hexT (s.take i)).length = 2 * i + 1 := by unfold hexT; rw [List.length_cons, hl1, hl3]
    refine CW.seq (CW.seq (CW.region ?_))
    refine RW.move rfl rfl ?_
    refine RW.move rfl rfl ?_
    refine RW.lenS Tryd.underlying9 rfl rfl ?_
    refine RW.lss rfl rfl rfl ?_
    refine RW.nil (EX.seq ?_)
    -- mq: cond
    first | refine CW.condD rfl (fun hlt => ?_) (fun hlt => ?_) | refine CW.cond rfl (fun hlt => ?_) (fun hlt => ?_)
    · skip
      obtain ⟨c, hc⟩ : ∃ c, s[i]? = some c := ⟨s[i]'(by omega), List.getElem?_eq_getElem _⟩
      have hc8 := UInt8.toNat_lt c
      have hsn := hexT_two hc
      have hd1 := UInt8.toNat_lt (hexDig (c.toNat / 16))
      refine CW.skip (EX.seq (CW.seq (CW.block ?_)))
      -- mq: region
      refine CW.drawU [0, 1, 2, 3, 4, 5, 6, 7, 8, 9, 10] 2 [[(11, false, []), (12, false, [13])]] (fun _ => True) mixed (by kernel_rfl) (fun _ hw => hw.drew) (fun _ h => (by first | trivial | exact h | exact h.ch | exact (h.rem Rem.head).ch | exact ((h.rem Rem.head).rem Rem.head).ch | exact (((h.rem Rem.head).rem Rem.head).rem Rem.head).ch)) ?_
      refine QuP.cons rfl (fun wq hq => (RW.move rfl rfl RW.jn)) ?_
      refine QuP.cons rfl (fun wq hq => (RW.move rfl rfl RW.jn)) ?_
      refine QuP.cons rfl (fun wq hq => (RW.move rfl rfl RW.jn)) ?_
      refine QuP.cons rfl (fun wq hq => (RW.ixStr (q := i) Tryd.underlying9 rfl rfl rfl (by omega) hc RW.jn)) ?_
      refine QuP.cons rfl (fun wq hq => (RW.shrN (r := ((c.toNat / 16 : Nat) : Int)) rfl rfl rfl (by decide) (by rfl) RW.jn)) ?_
      refine QuP.cons rfl (fun wq hq => (RW.ixStr (q := c.toNat / 16) Tryd.underlying9 rfl rfl rfl (by omega) (hexL_at (c.toNat / 16) (by omega)) RW.jn)) ?_
      refine QuP.cons rfl (fun wq hq => (RW.move rfl rfl RW.jn)) ?_
      refine QuP.cons rfl (fun wq hq => (RW.move rfl rfl RW.jn)) ?_
      refine QuP.cons rfl (fun wq hq => (RW.ixStr (q := i) Tryd.underlying9 rfl rfl rfl (by omega) hc RW.jn)) ?_
      refine QuP.cons rfl (fun wq hq => (RW.and_ (r := ((c.toNat % 16 : Nat) : Int)) rfl rfl rfl (and15 c) RW.jn)) ?_
      refine QuP.cons rfl (fun wq hq => (RW.ixStr (q := c.toNat % 16) Tryd.underlying9 rfl rfl rfl (by omega) (hexL_at (c.toNat % 16) (by omega)) RW.jn)) ?_
      refine QuP.nil ?_
      refine UW.step [_] rfl (List.forall_mem_cons.2 ⟨?_, by simp⟩)
      refine RW.buildSlc sl41 rfl rfl rfl rfl (fun g23 hg23 hf23 => ?_)
      refine RW.st (fun _ => True) (fun _ h => .inr (by first | trivial | exact h | exact h.ch | exact (h.rem Rem.head).ch | exact ((h.rem Rem.head).rem Rem.head).ch | exact (((h.rem Rem.head).rem Rem.head).rem Rem.head).ch)) (fun _ h => trivial) ?_
      refine QuP.nil ?_
      refine UW.step [_] rfl (List.forall_mem_cons.2 ⟨?_, by simp⟩)
      refine RW.append1 sl41 rfl rfl rfl (by first | exact Rem.head | exact Rem.tail Rem.head | exact Rem.tail (Rem.tail Rem.head) | exact Rem.tail (Rem.tail (Rem.tail Rem.head)) | exact Rem.tail (Rem.tail (Rem.tail (Rem.tail Rem.head))) | exact Rem.tail (Rem.tail (Rem.tail (Rem.tail (Rem.tail Rem.head)))) | exact Rem.tail (Rem.tail (Rem.tail (Rem.tail (Rem.tail (Rem.tail Rem.head)))))) (fun _ => by first | exact Upd.head | exact Upd.tail Upd.head | exact Upd.tail (Upd.tail Upd.head) | exact Upd.tail (Upd.tail (Upd.tail Upd.head)) | exact Upd.tail (Upd.tail (Upd.tail (Upd.tail Upd.head))) | exact Upd.tail (Upd.tail (Upd.tail (Upd.tail (Upd.tail Upd.head)))) | exact Upd.tail (Upd.tail (Upd.tail (Upd.tail (Upd.tail (Upd.tail Upd.head)))))) rfl (by repeat (first | exact Ones.nil | exact Enc.ones _ _ | refine Ones.cons rfl ?_)) (by simp only [maxLen]; omega) (by omega) (fun v24 hv24 => ?_)
      refine RW.st (fun _ => True) (fun _ h => .inr ⟨.inr (by first | trivial | exact h | exact h.ch | exact (h.rem Rem.head).ch | exact ((h.rem Rem.head).rem Rem.head).ch | exact (((h.rem Rem.head).rem Rem.head).rem Rem.head).ch), trivial⟩) (fun _ h => trivial) ?_
      refine QuP.cons rfl (fun wq hq => (RW.assign rfl rfl RW.jn)) ?_
      refine QuP.nil ?_
      refine UW.nil (EX.bkN (EX.seq (CW.region ?_)))
      refine RW.move rfl rfl ?_
      refine RW.add rfl rfl rfl (wrap64 (by omega) (by omega)) ?_
      refine RW.assign rfl rfl ?_
      refine RW.nil ?_
      -- mq: loopend
      refine EX.lpN (i + 1, v24) (by dsimp only; omega) (by dsimp only; omega) (by repeat (first | exact Sub.nil | refine Sub.cons (by rfl) ?_)) (fun w' hw' => ?_)
      dsimp only
      have e : EU8.all (hexT (s.take i) ++ [hexDig (c.toNat / 16), hexDig (c.toNat % 16)]) = EU8.all (hexT (s.take i)) ++ EU8.all [hexDig (c.toNat / 16), hexDig (c.toNat % 16)] := Enc.all_append EU8 _ _
      rw [hsn, e, List.length_append]
      exact hw'
    · skip
      have his : s.take i = s := List.take_of_length_le (by omega)
      rw [his]
      refine CW.formOwn (v := v) Has.head (fun A4 c4 hv4 hcap4 hmax4 hlen4 hg4 => ?_)
      subst hv4
      refine CW.exit (EX.seqE (EX.lpE (EX.bkE (EX.seq (CW.seq (CW.region ?_))))))
      refine RW.move rfl rfl ?_
      -- mq: op 1: ('Op.convert', '41', '9', ('Operand.tmp', '25')) -> slot 26 ("tape.go:41")
      refine RW.bytesStr (s := hexT s) (F := fun k => (Value.slice A4 (hexT s).length c4).ownBlock = some k) Tryd.underlying41 Tryd.underlying5 Tryd.underlying9 rfl rfl (fun w' hw' => ?_) ?_
      · obtain ⟨A6, c6, he6, hrd6⟩ := Rd.of_own (E := EU8) (hw'.has Has.head) rfl
        cases he6
        exact hrd6
      refine RW.assign rfl rfl ?_
      refine RW.nil (EX.seq (CW.ret ?_))
      refine EX.fin1 Tryd.results20 rfl (fun wz hw => ?_)
      -- mq: done
      exact ⟨rfl, hw.ext⟩
def digI (c : UInt8) : Int := match hexV c with | some k => (k : Int) | none => -1
theorem digit_c (w : World) (c : UInt8) : Calls Tryd.prog 49 [.int .u8 (c.toNat : Int)].toArray w (fun e w' => e = .returned (.int .i64 (digI c)) ∧ Ext [] w w') := by
  have hc8 := UInt8.toNat_lt c
  refine calls (n := 24) Tryd.func49 rfl Tryd.ntmps49 rfl ?_
  refine CW.sub (H' := SH w [] []) ?_ (Sub.refl _) (fun x hx => SH.start' _ _ hx)
  refine CW.seq (CW.region ?_)
  refine RW.assign rfl rfl ?_
  refine RW.nil (EX.seq (CW.seq (CW.block (CW.seq (CW.region ?_)))))
  refine RW.move rfl rfl ?_
  refine RW.geq rfl rfl rfl ?_
  refine RW.move rfl rfl ?_
  -- mq: guard slot 6
  refine RW.casesB 6 rfl (fun h1 => ?_) (fun h1 => ?_)
  · skip
    have h1p := of_decide_eq_true h1
    refine RW.guardT rfl rfl h1 ?_
    refine RW.move rfl rfl ?_
    refine RW.guardT rfl rfl h1 ?_
    refine RW.leq rfl rfl rfl ?_
    refine RW.pickB rfl rfl h1 rfl ?_
    refine RW.assign rfl rfl ?_
    refine RW.nil (EX.seq ?_)
    -- mq: cond
    first | refine CW.condD rfl (fun h2 => ?_) (fun h2 => ?_) | refine CW.cond rfl (fun h2 => ?_) (fun h2 => ?_)
    · skip
      refine CW.seq (CW.region ?_)
      refine RW.move rfl rfl ?_
      refine RW.sub_ (r := ((c.toNat - 48 : Nat) : Int)) rfl rfl rfl (by rw [IntKind.wrap_u8]; omega) ?_
      refine RW.convI rfl rfl Tryd.underlying5 Tryd.underlying3 (wrap64 (by omega) (by omega)) ?_
      refine RW.assign rfl rfl ?_
      refine RW.nil (EX.seq (CW.ret (EX.bkR (EX.seqR ?_))))
      refine EX.fin1 Tryd.results49 rfl (fun wz hw => ?_)
      -- mq: done
      exact ⟨by rw [digI, hexV, if_pos (by omega)], hw.ext⟩
    · skip
      refine CW.seq (CW.region ?_)
      refine RW.move rfl rfl ?_
      refine RW.geq rfl rfl rfl ?_
      refine RW.move rfl rfl ?_
      -- mq: guard slot 16
      refine RW.casesB 16 rfl (fun h3 => ?_) (fun h3 => ?_)
      · skip
        have h3p := of_decide_eq_true h3
        refine RW.guardT rfl rfl h3 ?_
        refine RW.move rfl rfl ?_
        refine RW.guardT rfl rfl h3 ?_
        refine RW.leq rfl rfl rfl ?_
        refine RW.pickB rfl rfl h3 rfl ?_
        refine RW.assign rfl rfl ?_
        refine RW.nil (EX.seq ?_)
        -- mq: cond
        first | refine CW.condD rfl (fun h4 => ?_) (fun h4 => ?_) | refine CW.cond rfl (fun h4 => ?_) (fun h4 => ?_)
        · skip
          refine CW.seq (CW.region ?_)
          refine RW.move rfl rfl ?_
          refine RW.sub_ (r := ((c.toNat - 97 : Nat) : Int)) rfl rfl rfl (by rw [IntKind.wrap_u8]; omega) ?_
          refine RW.convI rfl rfl Tryd.underlying5 Tryd.underlying3 (wrap64 (by omega) (by omega)) ?_
          refine RW.add rfl rfl rfl (wrap64 (by omega) (by omega)) ?_
          refine RW.assign rfl rfl ?_
          refine RW.nil (EX.seq (CW.ret (EX.bkR (EX.seqR ?_))))
          refine EX.fin1 Tryd.results49 rfl (fun wz hw => ?_)
          -- mq: done
          exact ⟨by rw [digI, hexV, if_neg (by omega), if_pos (by omega)]; dsimp only; congr 3; omega, hw.ext⟩
        · skip
          refine CW.skip (EX.bkN (EX.seq (CW.seq (CW.region ?_))))
          refine RW.assign rfl rfl ?_
          refine RW.nil (EX.seq (CW.ret ?_))
          refine EX.fin1 Tryd.results49 rfl (fun wz hw => ?_)
          -- mq: done
          exact ⟨by rw [digI, hexV, if_neg (by omega), if_neg (by omega)], hw.ext⟩
      · skip
        have h3p := of_decide_eq_false h3
        refine RW.guardF rfl rfl rfl h3 ?_
        refine RW.guardF rfl rfl rfl h3 ?_
        refine RW.pickC rfl rfl h3 rfl ?_
        refine RW.assign rfl rfl ?_
        refine RW.nil (EX.seq ?_)
        -- mq: cond
        refine CW.condF rfl (rfl) ?_
        refine CW.skip (EX.bkN (EX.seq (CW.seq (CW.region ?_))))
        refine RW.assign rfl rfl ?_
        refine RW.nil (EX.seq (CW.ret ?_))
        refine EX.fin1 Tryd.results49 rfl (fun wz hw => ?_)
        -- mq: done
        exact ⟨by rw [digI, hexV, if_neg (by omega), if_neg (by omega)], hw.ext⟩
  · skip
    have h1p := of_decide_eq_false h1
    refine RW.guardF rfl rfl rfl h1 ?_
    refine RW.guardF rfl rfl rfl h1 ?_
    refine RW.pickC rfl rfl h1 rfl ?_
    refine RW.assign rfl rfl ?_
    refine RW.nil (EX.seq ?_)
    -- mq: cond
    refine CW.condF rfl (rfl) ?_
    refine CW.seq (CW.region ?_)
    refine RW.move rfl rfl ?_
    refine RW.geq rfl rfl rfl ?_
    refine RW.move rfl rfl ?_
    -- mq: guard slot 16
    refine RW.casesB 16 rfl (fun h3 => ?_) (fun h3 => ?_)
    · skip
      have h3p := of_decide_eq_true h3
      omega
    · skip
      have h3p := of_decide_eq_false h3
      refine RW.guardF rfl rfl rfl h3 ?_
      refine RW.guardF rfl rfl rfl h3 ?_
      refine RW.pickC rfl rfl h3 rfl ?_
      refine RW.assign rfl rfl ?_
      refine RW.nil (EX.seq ?_)
      -- mq: cond
      refine CW.condF rfl (rfl) ?_
      refine CW.skip (EX.bkN (EX.seq (CW.seq (CW.region ?_))))
      refine RW.assign rfl rfl ?_
      refine RW.nil (EX.seq (CW.ret ?_))
      refine EX.fin1 Tryd.results49 rfl (fun wz hw => ?_)
      -- mq: done
      exact ⟨by rw [digI, hexV, if_neg (by omega), if_neg (by omega)], hw.ext⟩
end Go.Proofs.YtnpafpnameleaaaDoor.Mq
