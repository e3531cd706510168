/- tape: TapeLong -/
import Derived.Test.YtnpafpnameleaaaDoorTpf
import Derived.Room.AppendFits
import Derived.Lib.UnsafeStr
namespace Go.Proofs.YtnpafpnameleaaaDoor.Mq
open Go Go.RowKit Go.Proofs

section
variable {P : Program} {n : Nat} {ops : Array Oper} {Q : Post} {rest : List Oper} {l : Fr} {d : Nat} {ty : TypeId} {pos : String} {af : Array Edge} {b : World} {S : List Nat} {cs : List Chunk}
theorem strCells_all (s : List UInt8) : Lib.strCells (bs s) = EU8.all s := by
  rw [Lib.strCells_eq]
  show Lib.byteCells s = EU8.all s
  unfold Lib.byteCells Enc.all EU8
  induction s with
  | nil => rfl
  | cons c s ih => rw [List.map_cons, List.flatMap_cons, ih]; rfl
/-- append of a string's bytes to a slice with room -/
theorem RW.appendStr {x y : Operand} {t u e by_ g m c : Nat} {z : List Value} {xs : List Value} {s : List UInt8} {cs' : List Chunk} (ht : SlT P t e 1 by_ z) (hu : P.underlying u = some .string) (hd : Nat.blt d n = true)
    (hx : ev l x = some (.slice (some ⟨g, 0, none⟩) m c)) (hy : ev l y = some (.string (bs s)))
    (hup : Upd cs (own e 1 (.slice (some ⟨g, 0, none⟩) m c) m xs) (own e 1 (.slice (some ⟨g, 0, none⟩) (m + s.length) c) (m + s.length) (xs ++ EU8.all s)) cs') (h1 : 0 < c) (hroom : m + s.length ≤ c)
    (h : RW P n ops Q rest ((d, .slice (some ⟨g, 0, none⟩) (m + s.length) c) :: l) (SH b S cs')) :
    RW P n ops Q (⟨some d, .call ⟨.builtin .append, #[x, y], #[t, u]⟩, ty, pos, af, none⟩ :: rest) l (SH b S cs) := by
  obtain ⟨i, zv, hi1, hz, hzc, hs, hby⟩ := ht.inf
  refine RW.step hd fun ρ w hρ hw => ?_
  have hown : w.ownsRow 0 e 1 (.slice (some ⟨g, 0, none⟩) m c) m xs := hw.has hup.has
  obtain ⟨w', hrun, h2, h3⟩ := Lib.run_append_fits_string (P := P) w 0 t u ty e i ht.und hu hi1 hs (some ⟨g, 0, none⟩) m c xs hown (bs s) h1 (by rw [bs_size]; exact hroom)
  rw [bs_size, strCells_all] at h2
  rw [bs_size] at hrun
  refine ⟨.slice (some ⟨g, 0, none⟩) (m + s.length) c, w', ?_, h.at (hw.upd hup (Ext.of_grown h3) h2 ?_ ?_)⟩
  · simp [execOp, resolve, invoke, builtin, hρ x _ hx, hρ y _ hy, hrun]
  · intro k hk
    left
    simpa [own, Value.ownBlock] using hk
  · simp [own, Value.ownBlock]
end
theorem zerosU8 (m : Nat) : zeros [.int .u8 0] m = EU8.all (List.replicate m 0) := by
  induction m with
  | zero => rfl
  | succ m ih => rw [List.replicate_succ, zeros, ih]; rfl
def padL (m i : Nat) (c : UInt8) : List UInt8 := List.replicate i c ++ List.replicate (m - i) 0
theorem padL_len {m i : Nat} {c : UInt8} (h : i ≤ m) : (padL m i c).length = m := by unfold padL; rw [List.length_append, List.length_replicate, List.length_replicate]; omega
theorem padL_0 (m : Nat) (c : UInt8) : padL m 0 c = List.replicate m 0 := by simp [padL]
theorem padL_m (m : Nat) (c : UInt8) : padL m m c = List.replicate m c := by simp [padL]
theorem padL_at {m i : Nat} {c : UInt8} (h : i < m) : (padL m i c)[i]? = some 0 := by
  unfold padL
  rw [List.getElem?_append_right (by simp), List.length_replicate, Nat.sub_self, List.getElem?_replicate, if_pos (by omega)]
theorem padL_set {m i : Nat} {c : UInt8} (h : i < m) : (padL m i c).set i c = padL m (i + 1) c := by
  unfold padL
  rw [List.set_append_right _ _ (by simp), List.length_replicate, Nat.sub_self, show m - i = (m - (i + 1)) + 1 by omega, List.replicate_succ, List.set_cons_zero, List.replicate_succ']
  simp
theorem padL_cells {m i : Nat} {c : UInt8} (h : i < m) : (EU8.all (padL m i c)).set i (.int .u8 (c.toNat : Int)) = EU8.all (padL m (i + 1) c) := by
  have := EU8.all_set (j := 0) (a' := c) (v := .int .u8 (c.toNat : Int)) (padL_at (c := c) h) (by decide) rfl
  rw [← padL_set h]
  rw [show i * EU8.sz + 0 = i from Nat.mul_one i] at this
  exact this
def feedL : List UInt8 := [102, 101, 101, 100, 32, 61]
theorem line_feed (D : List UInt8) : lineS ⟨0, 0, 0, D⟩ = feedL ++ hexP D := by
  show Lib.join [[102, 101, 101, 100], hexT D] [32] = _
  rw [joinTwo, Lib.join_one]; rfl
theorem parse_long {D : List UInt8} (h : 65536 < D.length) : parseS (feedL ++ hexP D) = (zeroS, 3) := by
  rw [← line_feed]
  unfold parseS
  rw [words_lineS (by dsimp only; omega)]
  show (match kindOf [102, 101, 101, 100] with | none => (zeroS, 7) | some k => fillS k [hexT D]) = _
  rw [show kindOf [102, 101, 101, 100] = some 0 by decide]
  dsimp only
  have hd : dataF (hexT D) = ([], 3) := by
    unfold hexT
    rw [dataF_yes, unhex_hex]
    dsimp only
    rw [if_neg (by omega)]
  simp [fillS, numsK, hasK, hd]
theorem ok_feed {D : List UInt8} : okSt ⟨0, 0, 0, D⟩ = true ↔ D.length ≤ 65536 := by
  have := @okSt4 0 0 0 D
  rw [show ((0 : Nat) : Int) = 0 from rfl] at this
  rw [this]
  constructor
  · intro h; exact h.2.1
  · intro h; exact ⟨by omega, h, .inr rfl, .inr rfl, .inl rfl⟩
theorem hexP_rep (i : Nat) (c : UInt8) : hexP (List.replicate (i + 1) c) = hexP (List.replicate i c) ++ hex2 c := by rw [List.replicate_succ', hexP_snoc]
theorem readLong_c (w : World) (s : List UInt8) (hs : 1048576 < s.length) :
    Calls Tryd.prog 13 [.string (bs s)].toArray w (RetA (IsRead ([], 0, 3) w) w) := by
  refine calls (n := 43) Tryd.func13 rfl Tryd.ntmps13 rfl ?_
  refine CW.sub (H' := SH w [] []) ?_ (Sub.refl _) (fun x hx => SH.start' _ _ hx)
  refine CW.seq (CW.region ?_)
  refine RW.assign rfl rfl ?_
  refine RW.assign rfl rfl ?_
  refine RW.assign rfl rfl ?_
  refine RW.nil (EX.seq (CW.seq (CW.seq (CW.region ?_))))
  refine RW.move rfl rfl ?_
  refine RW.lenS Tryd.underlying9 rfl rfl ?_
  refine RW.gtr rfl rfl rfl ?_
  refine RW.nil (EX.seq ?_)
  -- mq: cond
  refine CW.condT rfl ((decide_eq_true (by omega))) ?_
  refine CW.seq (CW.region ?_)
  refine RW.assign rfl rfl ?_
  refine RW.assign rfl rfl ?_
  refine RW.assign rfl rfl ?_
  refine RW.nil (EX.seq (CW.ret (EX.seqR ?_)))
  refine EX.fin3 Tryd.results13 rfl rfl rfl (fun wz hw => ?_)
  -- mq: done
  exact ⟨_, rfl, hw.ext, none, 0, 0, rfl, Rd.nilSl _ _ _⟩
theorem long_c (w : World) (hg : GT w) (n : Nat) (hn : n < 65536) (ch : UInt8) :
    Calls Tryd.prog 6 [.int .u16 (n : Int), .int .u8 (ch.toNat : Int)].toArray w (fun e w' => e = .returned (.bool true) ∧ Ext [] w w') := by
  obtain ⟨m, hm⟩ : ∃ m, m = 65536 + n % 9 := ⟨_, rfl⟩
  obtain ⟨M, hM⟩ : ∃ M, M = 1048577 := ⟨_, rfl⟩
  have hrl : ∀ k (c : UInt8), (List.replicate k c).length = k := fun k c => List.length_replicate
  have hpl : ∀ k, (hexP (List.replicate k ch)).length = 2 * k := fun k => by rw [hexP_len, hrl]
  refine calls (n := 143) Tryd.func6 rfl Tryd.ntmps6 rfl ?_
  refine CW.sub (H' := SH w [] []) ?_ (Sub.refl _) (fun x hx => SH.start' _ _ hx)
  refine CW.seq (CW.region ?_)
  refine RW.assign rfl rfl ?_
  refine RW.nil (EX.seq (CW.seq ?_))
  -- mq: region
  refine CW.region ?_
  refine RW.move rfl rfl ?_
  refine RW.rem (r := ((n % 9 : Nat) : Int)) rfl rfl rfl (by decide) rfl ?_
  refine RW.convI (r := ((n % 9 : Nat) : Int)) rfl rfl Tryd.underlying40 Tryd.underlying3 (wrap64 (by omega) (by omega)) ?_
  refine RW.add (r := (m : Int)) rfl rfl rfl (by rw [wrap64 (by omega) (by omega)]; omega) ?_
  refine RW.make m sl41 rfl rfl rfl rfl (by simp only [maxLen]; omega) (by omega) (fun g hgl hgf => ?_)
  refine RW.assign rfl rfl ?_
  refine RW.nil (EX.seq (CW.seq (CW.seq (CW.region ?_))))
  refine RW.assign rfl rfl ?_
  refine RW.nil (EX.seq (CW.block ?_))
  -- mq: loop
  refine CW.loop (ι := Nat) (fun i => [(1, .int .u8 (ch.toNat : Int)), (5, .slice (some ⟨g, 0, none⟩) m m), (6, .int .i64 (i : Int))]) (fun i => SH w [] [own 5 1 (.slice (some ⟨g, 0, none⟩) m m) m (EU8.all (padL m i ch))]) (fun i => i ≤ m) (fun i => m - i) ?_ ?_
  · refine fun w' hw' => ⟨0, Nat.zero_le _, (by repeat (first | exact Sub.nil | refine Sub.cons (by rfl) ?_)), ?_⟩
    rw [padL_0, ← zerosU8]
    exact hw'
  · intro i hi
    have hfl := padL_len (m := m) (i := i) (c := ch) hi
    refine CW.seq (CW.seq (CW.region ?_))
    refine RW.move rfl rfl ?_
    refine RW.move rfl rfl ?_
    refine RW.lenSl Tryd.underlying41 rfl rfl ?_
    refine RW.lss rfl rfl rfl ?_
    refine RW.nil (EX.seq ?_)
    -- mq: cond
    first | refine CW.condD rfl (fun hlt => ?_) (fun hlt => ?_) | refine CW.cond rfl (fun hlt => ?_) (fun hlt => ?_)
    · skip
      have hfc := padL_cells (m := m) (i := i) (c := ch) (by omega)
      refine CW.skip (EX.seq (CW.seq (CW.block (CW.region ?_))))
      refine RW.move rfl rfl ?_
      refine RW.move rfl rfl ?_
      refine RW.move rfl rfl ?_
      refine RW.ixAddr (q := i) sl41 rfl rfl rfl (by first | rfl | assumption) (by omega) (by omega) ?_
      refine RW.storeOwn1 (o := i) sc5 rfl rfl (by first | exact Upd.head | exact Upd.tail Upd.head | exact Upd.tail (Upd.tail Upd.head) | exact Upd.tail (Upd.tail (Upd.tail Upd.head)) | exact Upd.tail (Upd.tail (Upd.tail (Upd.tail Upd.head))) | exact Upd.tail (Upd.tail (Upd.tail (Upd.tail (Upd.tail Upd.head)))) | exact Upd.tail (Upd.tail (Upd.tail (Upd.tail (Upd.tail (Upd.tail Upd.head)))))) (by rw [Addr.add_lit]; simp) rfl (by rw [EU8.all_length, hfl]; show i < m * 1; omega) ?_
      refine RW.nil (EX.bkN (EX.seq (CW.region ?_)))
      refine RW.move rfl rfl ?_
      refine RW.add rfl rfl rfl (wrap64 (by omega) (by omega)) ?_
      refine RW.assign rfl rfl ?_
      refine RW.nil ?_
      -- mq: loopend
      exact EX.lpN (i + 1) (by omega) (by omega) (by repeat (first | exact Sub.nil | refine Sub.cons (by rfl) ?_)) (fun w' hw' => by rw [hfc] at hw'; exact hw')
    · skip
      obtain rfl : i = m := by omega
      rw [padL_m]
      generalize hD : List.replicate i ch = D
      have hDl : D.length = i := by rw [← hD, hrl]
      refine CW.exit (EX.seqE (EX.lpE (EX.bkE (EX.seq (CW.seq ?_)))))
      -- mq: region
      refine CW.region ?_
      refine RW.move rfl rfl ?_
      -- mq: at
      refine RW.bytesStr (s := D) (F := fun k => (Value.slice (some ⟨g, 0, none⟩) i i).ownBlock = some k) Tryd.underlying41 Tryd.underlying5 Tryd.underlying9 rfl rfl (fun w' hw' => ?_) ?_
      · obtain ⟨A6, c6, he6, hrd6⟩ := Rd.of_own (E := EU8) (hw'.has Has.head) hDl
        cases he6
        exact hrd6
      have hLi := fun w' (hw' : Ext [] w w') => Line_c4 w' (hg.ext hw').l 0 0 0 D (by decide) (by decide) (by omega)
      obtain ⟨X, e, hXe, hX1, hX2⟩ : ∃ X e, lineV ⟨0, 0, 0, D⟩ = .tuple #[.string (bs X), .int .i64 e] ∧ (i ≤ 65536 → X = feedL ++ hexP D ∧ e = 0) ∧ (65536 < i → X = [] ∧ e = 1) := by
        by_cases h : i ≤ 65536
        · exact ⟨_, _, lineV_ok (ok_feed.2 (by omega)), fun _ => ⟨line_feed D, rfl⟩, fun h2 => absurd h2 (by omega)⟩
        · exact ⟨_, _, lineV_no (fun e => by have := ok_feed.1 e; omega), fun h2 => absurd h2 h, fun _ => ⟨rfl, rfl⟩⟩
      rw [hXe] at hLi
      refine RW.buildS bu23 rfl rfl rfl ?_
      refine RW.allocA ag23 rfl (fun g7 hg7 hf7 => ?_)
      refine RW.storeA ag23 rfl rfl (by first | exact Upd.head | exact Upd.tail Upd.head | exact Upd.tail (Upd.tail Upd.head) | exact Upd.tail (Upd.tail (Upd.tail Upd.head)) | exact Upd.tail (Upd.tail (Upd.tail (Upd.tail Upd.head))) | exact Upd.tail (Upd.tail (Upd.tail (Upd.tail (Upd.tail Upd.head)))) | exact Upd.tail (Upd.tail (Upd.tail (Upd.tail (Upd.tail (Upd.tail Upd.head)))))) (by first | rfl | exact Enc.len _ _) (by repeat (first | exact Ones.nil | exact Enc.ones _ _ | refine Ones.cons rfl ?_)) (by first | exact Nat.le_of_ble_eq_true rfl | (simp only [Enc.len]; decide)) ?_
      refine RW.nil (EX.seq (CW.seq ?_))
      -- mq: region
      refine CW.region ?_
      refine RW.loadBA ag23 rfl rfl (by first | exact Has.head | exact Has.tail Has.head | exact Has.tail (Has.tail Has.head) | exact Has.tail (Has.tail (Has.tail Has.head)) | exact Has.tail (Has.tail (Has.tail (Has.tail Has.head))) | exact Has.tail (Has.tail (Has.tail (Has.tail (Has.tail Has.head)))) | exact Has.tail (Has.tail (Has.tail (Has.tail (Has.tail (Has.tail Has.head)))))) rfl rfl ?_
      refine RW.call rfl ca9 rfl (fun w' hw' => hLi w' hw'.ext) ?_
      refine RW.move rfl rfl ?_
      refine RW.extract rfl rfl rfl ?_
      refine RW.extract rfl rfl rfl ?_
      refine RW.assign rfl rfl ?_
      refine RW.assign rfl rfl ?_
      refine RW.nil (EX.seq (CW.seq ?_))
      -- mq: region
      refine CW.region ?_
      refine RW.move rfl rfl ?_
      refine RW.buildSlc sl41 rfl rfl rfl rfl (fun g43 hg43 hf43 => ?_)
      -- mq: at
      refine RW.bytesStr (s := [ch]) Tryd.underlying41 Tryd.underlying5 Tryd.underlying9 rfl rfl (fun w' hw' => Rd.of_blk (E := EU8) (L := [ch]) hw' Has.head rfl (by decide)) ?_
      have hh2 : (hexT [ch]).drop 1 = hex2 ch := by simp [hexT, hexP]
      have hhl : (hexT [ch]).length = 3 := rfl
      refine RW.call rfl ca15 rfl (fun w' _ => refHex_c w' [ch] (by show 1 ≤ 1000000; decide)) ?_
      refine RW.sliceStrL 1 Tryd.underlying9 rfl rfl rfl (by first | rfl | omega) (by first | omega | (simp; done) | (simp; omega)) ?_
      refine RW.assign rfl rfl ?_
      refine RW.nil (EX.seq (CW.seq ?_))
      -- mq: region
      rw [hh2]
      refine CW.region ?_
      refine RW.move rfl rfl ?_
      refine RW.lenSl Tryd.underlying41 rfl rfl ?_
      refine RW.mul (r := ((2 * i : Nat) : Int)) rfl rfl rfl (by rw [wrap64 (by omega) (by omega)]; omega) ?_
      refine RW.add (r := ((6 + 2 * i : Nat) : Int)) rfl rfl rfl (by rw [wrap64 (by omega) (by omega)]; omega) ?_
      refine RW.makeE (6 + 2 * i) sl41 rfl rfl rfl rfl (by simp only [maxLen]; omega) (by omega) (fun g9 hgl9 hgf9 => ?_)
      refine RW.appendStr (s := feedL) sl41 Tryd.underlying9 rfl rfl rfl Upd.head (by omega) (by show 0 + 6 ≤ _; omega) ?_
      refine RW.assign rfl rfl ?_
      refine RW.nil (EX.seq (CW.seq (CW.seq (CW.region ?_))))
      refine RW.assign rfl rfl ?_
      refine RW.nil (EX.seq (CW.block ?_))
      -- mq: loop
      refine CW.loop (ι := Nat) (fun j => [(5, .slice (some ⟨g, 0, none⟩) i i), (7, .pointer (some ⟨g7, 0, none⟩)), (8, .string (bs X)), (9, .int .i64 e), (10, .string (bs (hex2 ch))), (11, .slice (some ⟨g9, 0, none⟩) (6 + 2 * j) (6 + 2 * i)), (12, .int .i64 (j : Int))]) (fun j => SH w [] [own 5 1 (.slice (some ⟨g9, 0, none⟩) (6 + 2 * j) (6 + 2 * i)) (6 + 2 * j) (EU8.all (feedL ++ hexP (List.replicate j ch))), blk g7 [.int .i64 0, .int .i64 0, .int .i64 0, .string (bs D)] 23]) (fun j => j ≤ i) (fun j => i - j) ?_ ?_
      · exact fun w' hw' => ⟨0, Nat.zero_le _, (by repeat (first | exact Sub.nil | refine Sub.cons (by rfl) ?_)), by
          rw [show List.replicate 0 ch = [] from rfl, show hexP [] = [] from rfl, List.append_nil]
          exact (hw'.rem (Rem.tail Rem.head)).rem (Rem.tail (Rem.tail Rem.head))⟩
      · intro j hj
        refine CW.seq (CW.seq (CW.region ?_))
        refine RW.move rfl rfl ?_
        refine RW.move rfl rfl ?_
        refine RW.lenSl Tryd.underlying41 rfl rfl ?_
        refine RW.lss rfl rfl rfl ?_
        refine RW.nil (EX.seq ?_)
        -- mq: cond
        first | refine CW.condD rfl (fun hlt2 => ?_) (fun hlt2 => ?_) | refine CW.cond rfl (fun hlt2 => ?_) (fun hlt2 => ?_)
        · skip
          refine CW.skip (EX.seq (CW.seq (CW.block (CW.region ?_))))
          refine RW.move rfl rfl ?_
          refine RW.move rfl rfl ?_
          refine RW.appendStr (s := hex2 ch) sl41 Tryd.underlying9 rfl rfl rfl Upd.head (by omega) (by show 6 + 2 * j + 2 ≤ _; omega) ?_
          refine RW.assign rfl rfl ?_
          refine RW.nil (EX.bkN (EX.seq (CW.region ?_)))
          refine RW.move rfl rfl ?_
          refine RW.add rfl rfl rfl (wrap64 (by omega) (by omega)) ?_
          refine RW.assign rfl rfl ?_
          refine RW.nil ?_
          -- mq: loopend
          refine EX.lpN (j + 1) (by omega) (by omega) (by rw [show 6 + 2 * (j + 1) = 6 + 2 * j + 2 by omega]; exact (by repeat (first | exact Sub.nil | refine Sub.cons (by rfl) ?_))) (fun w' hw' => ?_)
          rw [hexP_rep, ← List.append_assoc, show EU8.all (feedL ++ hexP (List.replicate j ch) ++ hex2 ch) = EU8.all (feedL ++ hexP (List.replicate j ch)) ++ EU8.all (hex2 ch) from Enc.all_append EU8 _ _, show 6 + 2 * (j + 1) = 6 + 2 * j + 2 by omega]
          exact hw'
        · skip
          obtain rfl : j = i := by omega
          rw [hD]
          have hTl : (feedL ++ hexP D).length = 6 + 2 * j := by rw [List.length_append, hexP_len, hDl]; rfl
          refine CW.exit (EX.seqE (EX.lpE (EX.bkE (EX.seq (CW.seq ?_)))))
          -- mq: region
          refine CW.region ?_
          refine RW.move rfl rfl ?_
          -- mq: at
          refine RW.bytesStr (s := feedL ++ hexP D) (F := fun k => (Value.slice (some ⟨g9, 0, none⟩) (6 + 2 * j) (6 + 2 * j)).ownBlock = some k) Tryd.underlying41 Tryd.underlying5 Tryd.underlying9 rfl rfl (fun w' hw' => ?_) ?_
          · obtain ⟨A6, c6, he6, hrd6⟩ := Rd.of_own (E := EU8) (hw'.has Has.head) hTl
            cases he6
            exact hrd6
          refine RW.call rfl ca11 rfl (fun w' hw' => Parse_c w' (hg.ext hw'.ext).l (hg.ext hw'.ext).e (hg.ext hw'.ext).m _ (by omega)) ?_
          refine RW.move rfl rfl ?_
          refine RW.extract rfl rfl rfl ?_
          refine RW.extract rfl rfl rfl ?_
          refine RW.allocA ag23 rfl (fun g13 hg13 hf13 => ?_)
          refine RW.storeA ag23 rfl rfl (by first | exact Upd.head | exact Upd.tail Upd.head | exact Upd.tail (Upd.tail Upd.head) | exact Upd.tail (Upd.tail (Upd.tail Upd.head)) | exact Upd.tail (Upd.tail (Upd.tail (Upd.tail Upd.head))) | exact Upd.tail (Upd.tail (Upd.tail (Upd.tail (Upd.tail Upd.head)))) | exact Upd.tail (Upd.tail (Upd.tail (Upd.tail (Upd.tail (Upd.tail Upd.head)))))) (by first | rfl | exact Enc.len _ _) (by repeat (first | exact Ones.nil | exact Enc.ones _ _ | refine Ones.cons rfl ?_)) (by first | exact Nat.le_of_ble_eq_true rfl | (simp only [Enc.len]; decide)) ?_
          refine RW.assign rfl rfl ?_
          refine RW.nil (EX.seq (CW.seq ?_))
          -- mq: region
          refine CW.region ?_
          refine RW.make M sl41 rfl rfl rfl (by omega) (by simp only [maxLen]; omega) (by omega) (fun gM hglM hgfM => ?_)
          refine RW.assign rfl rfl ?_
          refine RW.nil (EX.seq (CW.seq ?_))
          -- mq: region
          refine CW.region ?_
          refine RW.move rfl rfl ?_
          -- mq: at
          rw [zerosU8]
          refine RW.bytesStr (s := List.replicate M 0) (F := fun k => (Value.slice (some ⟨gM, 0, none⟩) M M).ownBlock = some k) Tryd.underlying41 Tryd.underlying5 Tryd.underlying9 rfl rfl (fun w' hw' => ?_) ?_
          · obtain ⟨A6, c6, he6, hrd6⟩ := Rd.of_own (E := EU8) (hw'.has Has.head) (hrl M 0)
            cases he6
            exact hrd6
          refine RW.callA (R := fun w0 => IsRead ([], 0, 3) w0) rfl ca13 rfl (fun w' hw' => readLong_c w' _ (by rw [hrl]; omega)) (fun w1 w2 v hw1 he12 hw2 hlt2' hv => ?_)
          obtain ⟨A2, m2, c2, rfl, hrd⟩ := hv
          have hm2 : m2 = 0 := hrd.len.symm
          have hx12 : Ext [] w w2 := hw1.ext.trans0 he12
          have hcv := hw1.cov
          subst hm2
          refine RW.move rfl rfl ?_
          refine RW.extract rfl rfl rfl ?_
          refine RW.extract rfl rfl rfl ?_
          refine RW.extract rfl rfl rfl ?_
          refine RW.assign rfl rfl ?_
          refine RW.assign rfl rfl ?_
          refine RW.assign rfl rfl ?_
          refine RW.nil (EX.seq (CW.seq (CW.seq (CW.region ?_))))
          refine RW.move rfl rfl ?_
          refine RW.lenSl Tryd.underlying41 rfl rfl ?_
          refine RW.gtr rfl rfl rfl ?_
          refine RW.nil (EX.seq ?_)
          -- mq: cond
          first | refine CW.condD rfl (fun hbig => ?_) (fun hbig => ?_) | refine CW.cond rfl (fun hbig => ?_) (fun hbig => ?_)
          · skip
            obtain ⟨rfl, rfl⟩ := hX2 (by omega)
            rw [parse_long (D := D) (by omega)]
            refine CW.seq (CW.region ?_)
            refine RW.move rfl rfl ?_
            refine RW.eqlS rfl rfl rfl ?_
            refine RW.move rfl rfl ?_
            refine RW.guardT rfl rfl (decide_eq_true rfl) ?_
            refine RW.move rfl rfl ?_
            refine RW.guardT rfl rfl (decide_eq_true rfl) ?_
            refine RW.eqlI rfl rfl rfl ?_
            refine RW.pickB rfl rfl (decide_eq_true rfl) rfl ?_
            refine RW.move rfl rfl ?_
            refine RW.guardT rfl rfl rfl ?_
            refine RW.move rfl rfl ?_
            refine RW.guardT rfl rfl rfl ?_
            refine RW.eqlI rfl rfl rfl ?_
            refine RW.pickB rfl rfl rfl rfl ?_
            refine RW.move rfl rfl ?_
            refine RW.guardT rfl rfl rfl ?_
            refine RW.loadBA ag23 rfl rfl (by first | exact Has.head | exact Has.tail Has.head | exact Has.tail (Has.tail Has.head) | exact Has.tail (Has.tail (Has.tail Has.head)) | exact Has.tail (Has.tail (Has.tail (Has.tail Has.head))) | exact Has.tail (Has.tail (Has.tail (Has.tail (Has.tail Has.head)))) | exact Has.tail (Has.tail (Has.tail (Has.tail (Has.tail (Has.tail Has.head)))))) rfl rfl ?_
            refine RW.guardT rfl rfl rfl ?_
            refine RW.buildS bu23 rfl rfl rfl ?_
            refine RW.guardT rfl rfl rfl ?_
            refine RW.eqlSt eq23 rfl rfl rfl (by kernel_rfl) (heqS zeroS zeroS) ?_
            refine RW.pickB rfl rfl rfl rfl ?_
            refine RW.move rfl rfl ?_
            refine RW.guardT rfl rfl (decide_eq_true rfl) ?_
            refine RW.move rfl rfl ?_
            refine RW.guardT rfl rfl (decide_eq_true rfl) ?_
            refine RW.lenSl Tryd.underlying36 rfl rfl ?_
            refine RW.guardT rfl rfl (decide_eq_true rfl) ?_
            refine RW.eqlI rfl rfl rfl ?_
            refine RW.pickB rfl rfl (decide_eq_true rfl) rfl ?_
            refine RW.move rfl rfl ?_
            refine RW.guardT rfl rfl rfl ?_
            refine RW.move rfl rfl ?_
            refine RW.guardT rfl rfl rfl ?_
            refine RW.eqlI rfl rfl rfl ?_
            refine RW.pickB rfl rfl rfl rfl ?_
            refine RW.move rfl rfl ?_
            refine RW.guardT rfl rfl rfl ?_
            refine RW.move rfl rfl ?_
            refine RW.guardT rfl rfl rfl ?_
            refine RW.eqlI rfl rfl rfl ?_
            refine RW.pickB rfl rfl rfl rfl ?_
            refine RW.move rfl rfl ?_
            refine RW.guardT rfl rfl rfl ?_
            refine RW.call rfl ca8 rfl (fun w' hw' => awake_c w' (hg.ext (hw'.unbase hx12 hcv).ext)) ?_
            refine RW.pickB rfl rfl rfl rfl ?_
            refine RW.assign rfl rfl ?_
            refine RW.nil (EX.seq (CW.ret (EX.seqR ?_)))
            refine EX.fin1 Tryd.results6 rfl (fun wz hw => ?_)
            -- mq: done
            exact ⟨rfl, (hw.unbase hx12 hcv).ext⟩
          · skip
            obtain ⟨rfl, rfl⟩ := hX1 (by omega)
            have hpp : parseS (feedL ++ hexP D) = (⟨0, 0, 0, D⟩, 0) := by rw [← line_feed]; exact parse_line (ok_feed.2 (by omega)) (show In64 0 by decide) (show In64 0 by decide)
            rw [hpp]
            refine CW.skip (EX.seq (CW.seq (CW.region ?_)))
            refine RW.move rfl rfl ?_
            refine RW.move rfl rfl ?_
            -- mq: at
            refine RW.bytesStr (s := feedL ++ hexP D) (F := fun k => (Value.slice (some ⟨g9, 0, none⟩) (6 + 2 * j) (6 + 2 * j)).ownBlock = some k) Tryd.underlying41 Tryd.underlying5 Tryd.underlying9 rfl rfl (fun w' hw' => ?_) ?_
            · obtain ⟨A6, c6, he6, hrd6⟩ := Rd.of_own (E := EU8) (l := feedL ++ hexP D) (v := .slice (some ⟨g9, 0, none⟩) (6 + 2 * j) (6 + 2 * j)) (e := 5) (hw'.has (Has.tail (Has.tail Has.head))) hTl
              cases he6
              exact hrd6
            refine RW.eqlS rfl rfl rfl ?_
            refine RW.move rfl rfl ?_
            refine RW.guardT rfl rfl (decide_eq_true rfl) ?_
            refine RW.move rfl rfl ?_
            refine RW.guardT rfl rfl (decide_eq_true rfl) ?_
            refine RW.eqlI rfl rfl rfl ?_
            refine RW.pickB rfl rfl (decide_eq_true rfl) rfl ?_
            refine RW.move rfl rfl ?_
            refine RW.guardT rfl rfl rfl ?_
            refine RW.move rfl rfl ?_
            refine RW.guardT rfl rfl rfl ?_
            refine RW.eqlI rfl rfl rfl ?_
            refine RW.pickB rfl rfl rfl rfl ?_
            refine RW.move rfl rfl ?_
            refine RW.guardT rfl rfl rfl ?_
            refine RW.loadBA ag23 rfl rfl (by first | exact Has.head | exact Has.tail Has.head | exact Has.tail (Has.tail Has.head) | exact Has.tail (Has.tail (Has.tail Has.head)) | exact Has.tail (Has.tail (Has.tail (Has.tail Has.head))) | exact Has.tail (Has.tail (Has.tail (Has.tail (Has.tail Has.head)))) | exact Has.tail (Has.tail (Has.tail (Has.tail (Has.tail (Has.tail Has.head)))))) rfl rfl ?_
            refine RW.guardT rfl rfl rfl ?_
            refine RW.loadBA ag23 rfl rfl (by first | exact Has.head | exact Has.tail Has.head | exact Has.tail (Has.tail Has.head) | exact Has.tail (Has.tail (Has.tail Has.head)) | exact Has.tail (Has.tail (Has.tail (Has.tail Has.head))) | exact Has.tail (Has.tail (Has.tail (Has.tail (Has.tail Has.head)))) | exact Has.tail (Has.tail (Has.tail (Has.tail (Has.tail (Has.tail Has.head)))))) rfl rfl ?_
            refine RW.guardT rfl rfl rfl ?_
            refine RW.eqlSt eq23 rfl rfl rfl (by kernel_rfl) (heqS ⟨0, 0, 0, D⟩ ⟨0, 0, 0, D⟩) ?_
            refine RW.pickB rfl rfl rfl rfl ?_
            refine RW.move rfl rfl ?_
            refine RW.guardT rfl rfl (decide_eq_true rfl) ?_
            refine RW.move rfl rfl ?_
            refine RW.guardT rfl rfl (decide_eq_true rfl) ?_
            refine RW.lenSl Tryd.underlying36 rfl rfl ?_
            refine RW.guardT rfl rfl (decide_eq_true rfl) ?_
            refine RW.eqlI rfl rfl rfl ?_
            refine RW.pickB rfl rfl (decide_eq_true rfl) rfl ?_
            refine RW.move rfl rfl ?_
            refine RW.guardT rfl rfl rfl ?_
            refine RW.move rfl rfl ?_
            refine RW.guardT rfl rfl rfl ?_
            refine RW.eqlI rfl rfl rfl ?_
            refine RW.pickB rfl rfl rfl rfl ?_
            refine RW.move rfl rfl ?_
            refine RW.guardT rfl rfl rfl ?_
            refine RW.move rfl rfl ?_
            refine RW.guardT rfl rfl rfl ?_
            refine RW.eqlI rfl rfl rfl ?_
            refine RW.pickB rfl rfl rfl rfl ?_
            refine RW.move rfl rfl ?_
            refine RW.guardT rfl rfl rfl ?_
            refine RW.call rfl ca8 rfl (fun w' hw' => awake_c w' (hg.ext (hw'.unbase hx12 hcv).ext)) ?_
            refine RW.pickB rfl rfl rfl rfl ?_
            refine RW.assign rfl rfl ?_
            refine RW.nil (EX.seq (CW.ret ?_))
            refine EX.fin1 Tryd.results6 rfl (fun wz hw => ?_)
            -- mq: done
            exact ⟨rfl, (hw.unbase hx12 hcv).ext⟩
theorem u16_of {a : Int} (h : (Lit.int .u16 a).wf = true) : ∃ m : Nat, a = m ∧ m < 65536 := by
  have h : 0 ≤ a ∧ a ≤ 65535 := by simpa [Lit.wf, IntKind.min, IntKind.max, IntKind.signed, IntKind.bits] using h
  exact ⟨a.toNat, by omega, by omega⟩
theorem u8_of {a : Int} (h : (Lit.int .u8 a).wf = true) : ∃ m : Nat, a = m ∧ m < 256 := by
  have h : 0 ≤ a ∧ a ≤ 255 := by simpa [Lit.wf, IntKind.min, IntKind.max, IntKind.signed, IntKind.bits] using h
  exact ⟨a.toNat, by omega, by omega⟩
theorem long_p (w : World) (hg : GT w) (n : Nat) (hn : n < 65536) (m : Nat) (hm : m < 256) :
    Calls Tryd.prog 6 #[.int .u16 (n : Int), .int .u8 (m : Int)] w (fun e w' => e = .returned (.bool true) ∧ Ext [] w w') := by
  have h := long_c w hg n hn (UInt8.ofNat m)
  rw [show (UInt8.ofNat m).toNat = m by rw [UInt8.toNat_ofNat']; omega] at h
  exact h
end Go.Proofs.YtnpafpnameleaaaDoor.Mq
