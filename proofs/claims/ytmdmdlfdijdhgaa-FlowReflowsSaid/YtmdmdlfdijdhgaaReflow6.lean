/- walk of the reference's Reflow -/
import Derived.Test.YtmdmdlfdijdhgaaReflow5
import Derived.Test.YtmdmdlfdijdhgaaDrawT
namespace Go.Proofs.Ytmdmdlfdijdhgaa.Mq
open Go Go.RowKit Go.Proofs

abbrev chunksQ (v8 : Value) (rs : List RowV) (v9 : Value) (bg : List Int) (v10 : Value) (en : List Int) : List Chunk :=
  [own 45 2 v8 rs.length (ERow.all rs), own 3 1 v9 bg.length (EInt.all bg), own 3 1 v10 en.length (EInt.all en)]
structure RfSt where
  wi : World
  v8 : Value
  v9 : Value
  v10 : Value
  rs : List RowV
  L1 : List (Int × Int)
  L2 : List (Int × Int)
  s : Nat
  i : Nat
structure RfOk (w : World) (cols : Nat) (rows : List RowL) (t : RfSt) : Prop where
  e1 : Ext [] w t.wi
  nest : ∀ (k : Nat) (r : RowV) (row : RowL), t.rs[k]? = some r → (outF rows cols t.L1)[k]? = some row → Rd ECell t.wi (fun k => w.heap.size ≤ k ∧ k ∉ feet (chunksQ t.v8 t.rs t.v9 (begF rows cols t.L1 0) t.v10 (endF rows cols t.L1 0))) r.A r.n r.c row.1
  conts : t.rs.map (·.cont) = (outF rows cols t.L1).map (·.2)
  fresh : ∀ g ∈ feet (chunksQ t.v8 t.rs t.v9 (begF rows cols t.L1 0) t.v10 (endF rows cols t.L1 0)), w.heap.size ≤ g
  parts : linesL rows rows.length = t.L1 ++ t.L2
  ch1 : chainL rows 0 t.L1 t.s
  ch : chainE rows rows.length t.s t.L2
  i1 : t.i ≤ t.s
  i2 : ∀ j, t.i ≤ j → j < t.s → lineL rows j ≠ j
  s1 : t.s ≤ rows.length

theorem beg_at {rows : List RowL} {cols : Nat} {L1 L2 : List (Int × Int)} {a e r : Nat} (hL : linesL rows rows.length = L1 ++ ((a : Int), (e : Int)) :: L2) (h1 : chainL rows 0 L1 a) (ha : a ≤ r) (he : r < e) :
    (begF rows cols (linesL rows rows.length) 0)[r]? = some ((outF rows cols L1).length : Int) ∧ (endF rows cols (linesL rows rows.length) 0)[r]? = some (((outF rows cols L1).length : Int) + ((segF rows cols ((a : Int), (e : Int))).length : Int)) := by
  obtain ⟨hb, he2⟩ := begF_len (cols := cols) L1 0 a 0 h1
  rw [hL, begF_app, endF_app, begF, endF, Nat.zero_add]
  constructor
  · rw [List.getElem?_append_right (by omega), List.getElem?_append_left (by rw [List.length_replicate]; dsimp only; omega), List.getElem?_replicate, if_pos (by dsimp only; omega)]
  · rw [List.getElem?_append_right (by omega), List.getElem?_append_left (by rw [List.length_replicate]; dsimp only; omega), List.getElem?_replicate, if_pos (by dsimp only; omega)]
theorem out_cut {rows : List RowL} {cols : Nat} {L1 L2 : List (Int × Int)} {ln : Int × Int} (hL : linesL rows rows.length = L1 ++ ln :: L2) :
    ((outF rows cols (linesL rows rows.length)).take ((outF rows cols L1).length + (segF rows cols ln).length)).drop (outF rows cols L1).length = segF rows cols ln ∧ (outF rows cols L1).length + (segF rows cols ln).length ≤ (outF rows cols (linesL rows rows.length)).length := by
  have h : outF rows cols (linesL rows rows.length) = (outF rows cols L1 ++ segF rows cols ln) ++ outF rows cols L2 := by rw [hL]; simp [outF]
  rw [h]
  constructor
  · rw [List.take_append_of_le_length (by simp), List.take_of_length_le (by simp), List.drop_append_of_le_length (by simp), List.drop_length, List.nil_append]
  · simp only [List.length_append]; omega
theorem refReflow_c (w : World) (F G : Nat → Prop) (A B : Option Addr) (n c m d : Nat) (rows : List RowL) (l : List PosV) (cols : Nat) (hr0 : RdRows w F A n c rows) (hl0 : Rd EPos w G B m d l) (hsz : n + sumLen rows ≤ 600) (hm : m ≤ 40) (hp : ∀ p ∈ l, Pos64 p) (hc1 : 2 ≤ cols) (hc2 : cols ≤ 1000) :
    Calls Try.prog 28 [.slice A n c, .int .i64 (cols : Int), .slice B m d].toArray w (RetReflow w (outF rows cols (linesL rows n)) (l.map (posF rows cols))) := by
  have hl := hr0.len
  subst hl
  have hlm := hl0.len
  have hr := hr0.strong
  have hlp := hl0.strong (by decide)
  refine calls (n := 169) Try.func28 rfl Try.ntmps28 rfl ?_
  refine CW.sub (H' := SH w [] []) ?_ (Sub.refl _) (fun x hx => SH.start' _ _ hx)
  refine CW.seq (CW.region ?_)
  refine RW.assign rfl rfl ?_
  refine RW.assign rfl rfl ?_
  refine RW.nil (EX.seq (CW.seq (CW.seq ?_)))
  -- mq: region
  refine CW.region ?_
  refine RW.move rfl rfl ?_
  refine RW.call rfl ca12 rfl (fun w' _ => Fits_c w' _) ?_
  refine RW.not_ rfl rfl ?_
  refine RW.nil (EX.seq ?_)
  -- mq: cond
  refine CW.condF rfl ((by simp; omega)) ?_
  refine CW.ownNil 3 1 ?_
  refine CW.ownNil 3 1 ?_
  refine CW.ownNil 45 2 ?_
  refine CW.skip (EX.seq (CW.seq (CW.region ?_)))
  refine RW.assign rfl rfl ?_
  refine RW.nil (EX.seq (CW.seq (CW.region ?_)))
  refine RW.assign rfl rfl ?_
  refine RW.nil (EX.seq (CW.seq (CW.region ?_)))
  refine RW.assign rfl rfl ?_
  refine RW.nil (EX.seq (CW.seq (CW.seq (CW.region ?_))))
  refine RW.assign rfl rfl ?_
  refine RW.nil (EX.seq (CW.block ?_))
  -- mq: loop
  refine CW.loop (ι := RfSt) (fun t => [(0, .slice A rows.length c), (1, .int .i64 (cols : Int)), (2, .slice B m d), (8, t.v8), (9, t.v9), (10, t.v10), (11, .int .i64 (t.i : Int))]) (fun t => SH t.wi (feet (chunksQ t.v8 t.rs t.v9 (begF rows cols t.L1 0) t.v10 (endF rows cols t.L1 0))) (chunksQ t.v8 t.rs t.v9 (begF rows cols t.L1 0) t.v10 (endF rows cols t.L1 0))) (RfOk w cols rows) (fun t => rows.length - t.i) ?_ ?_
  · refine fun w' hw' => ⟨⟨w', .slice none 0 0, .slice none 0 0, .slice none 0 0, [], [], linesL rows rows.length, 0, 0⟩, ⟨hw'.ext, by simp, rfl, by simp [feet, own, Value.ownBlock], rfl, rfl, linesL_chain rows rows.length, Nat.le_refl _, fun j h1 h2 => by dsimp only at h2; omega, Nat.zero_le _⟩, (by repeat (first | exact Sub.nil | refine Sub.cons (by rfl) ?_)), ?_⟩
    exact hw'.rebase
  · rintro ⟨wi, v8, v9, v10, rs, L1, L2, s, i⟩ hok
    obtain ⟨e1, nest, conts, fresh, parts, ch1, hch, i1, i2, s1⟩ := hok
    dsimp only at e1 nest conts fresh parts ch1 hch i1 i2 s1 ⊢
    refine CW.formOwn (v := v8) Has.head (fun A8 c8 hv8 hcap8 hmax8 hlen8 hg8 => ?_)
    subst hv8
    have hrd := congrArg List.length conts
    simp only [List.length_map] at hrd
    have hpart := outF_part parts hc1
    obtain ⟨hbl, hel⟩ := begF_len (cols := cols) L1 0 s 0 ch1
    generalize hS : feet (chunksQ (.slice A8 rs.length c8) rs v9 (begF rows cols L1 0) v10 (endF rows cols L1 0)) = S at *
    have hin : ∀ k, k < w.heap.size → k ∉ S := fun k hk hk2 => by have := fresh k hk2; omega
    have hr1 := hr.ext e1 (by simp)
    have hlp1 := hlp.ext e1 (by simp)
    refine CW.seq (CW.seq (CW.region ?_))
    refine RW.move rfl rfl ?_
    refine RW.move rfl rfl ?_
    refine RW.lenSl Try.underlying24 rfl rfl ?_
    refine RW.lss rfl rfl rfl ?_
    refine RW.nil (EX.seq ?_)
    -- mq: cond
    first | refine CW.condD rfl (fun hlt => ?_) (fun hlt => ?_) | refine CW.cond rfl (fun hlt => ?_) (fun hlt => ?_)
    · skip
      refine CW.skip (EX.seq (CW.seq (CW.block (CW.seq (CW.region ?_)))))
      refine RW.move rfl rfl ?_
      refine RW.move rfl rfl ?_
      -- mq: op 2: ('Op.call', ('Call.mk', ('Callee.value', ('Operand.func', '21')), ('arr', ('Operand.tmp', '33'), ('Operand.tmp', '34')), ('arr', '24', '3'))) -> slot 35 ("ref.go:126")
      refine RW.call rfl ca21 rfl (fun w' hw' => Line_c w' _ A rows.length c rows (hr1.ext hw'.ext (fun k hk => hin k hk.2)) (by omega) i (by omega)) ?_
      refine RW.move rfl rfl ?_
      refine RW.eqlI rfl rfl rfl ?_
      refine RW.nil (EX.seq ?_)
      -- mq: cond
      first | refine CW.condD rfl (fun h37 => ?_) (fun h37 => ?_) | refine CW.cond rfl (fun h37 => ?_) (fun h37 => ?_)
      · skip
        have his : i = s := by
          by_cases h : i < s
          · exact absurd (by omega) (i2 i (Nat.le_refl _) h)
          · omega
        subst his
        cases L2 with
        | nil =>
          rcases hch with ⟨_, h⟩ | ⟨M, s, h, _⟩
          · omega
          · simp at h
        | cons ln L2 =>
        obtain ⟨e, rfl, hae, hen, hgood, hcont, hch'⟩ := chainE_step hch
        refine CW.seq (CW.region ?_)
        refine RW.move rfl rfl ?_
        refine RW.add rfl rfl rfl (wrap64 (by omega) (by omega)) ?_
        refine RW.assign rfl rfl ?_
        refine RW.nil (EX.seq (CW.seq ?_))
        -- mq: block
        refine CW.join ([(0, .slice A rows.length c), (1, .int .i64 (cols : Int)), (2, .slice B m d), (8, .slice A8 rs.length c8), (9, v9), (10, v10), (11, .int .i64 (i : Int)), (12, .int .i64 (e : Int))]) (SH wi S (chunksQ (.slice A8 rs.length c8) rs v9 (begF rows cols L1 0) v10 (endF rows cols L1 0))) ?_ ?_
        · skip
          refine CW.block ?_
          -- mq: loop
          refine CW.loop (ι := Nat) (fun k => [(0, .slice A rows.length c), (1, .int .i64 (cols : Int)), (2, .slice B m d), (8, .slice A8 rs.length c8), (9, v9), (10, v10), (11, .int .i64 (i : Int)), (12, .int .i64 (k : Int))]) (fun _ => SH wi S (chunksQ (.slice A8 rs.length c8) rs v9 (begF rows cols L1 0) v10 (endF rows cols L1 0))) (fun k => i + 1 ≤ k ∧ k ≤ e) (fun k => e - k) ?_ ?_
          · exact fun w' hw' => ⟨i + 1, ⟨Nat.le_refl _, hae⟩, Sub.cons (by rfl) (Sub.cons (by rfl) (Sub.cons (by rfl) (Sub.cons (by rfl) (Sub.cons (by rfl) (Sub.cons (by rfl) (Sub.cons (by rfl) (Sub.cons (by simp [look]) Sub.nil))))))), hw'⟩
          · rintro k ⟨hk1, hk2⟩
            refine CW.seq (CW.seq (CW.region ?_))
            refine RW.move rfl rfl ?_
            refine RW.move rfl rfl ?_
            refine RW.lenSl Try.underlying24 rfl rfl ?_
            refine RW.lss rfl rfl rfl ?_
            refine RW.move rfl rfl ?_
            -- mq: guard slot 44
            refine RW.casesB 44 rfl (fun h44 => ?_) (fun h44 => ?_)
            · skip
              have h44p := of_decide_eq_true h44
              obtain ⟨row, hrow⟩ : ∃ row, rows[k]? = some row := ⟨rows[k]'(by omega), List.getElem?_eq_getElem _⟩
              obtain ⟨ad, B2, m2, d2, hA2, had2, hcell2, hrd2⟩ := hr1.at_ hrow
              have hck : contAt rows k = row.2 := by unfold contAt; rw [hrow]; rfl
              refine RW.guardT rfl rfl h44 ?_
              refine RW.move rfl rfl ?_
              refine RW.guardT rfl rfl h44 ?_
              refine RW.move rfl rfl ?_
              refine RW.guardT rfl rfl h44 ?_
              refine RW.ixAddr (q := k) sl24 rfl rfl rfl (by first | rfl | assumption) (by omega) (by omega) ?_
              refine RW.guardT rfl rfl h44 ?_
              refine RW.fieldP fl45x1 rfl rfl ?_
              refine RW.guardT rfl rfl h44 ?_
              refine RW.load1 sc4 rfl rfl (fun w' hw' => hw'.base_cell (hcell2 1 _ rfl) (by rw [block_add, block_add]; exact hin _ had2.2)) ?_
              refine RW.pickB rfl rfl h44 rfl ?_
              refine RW.nil (EX.seq ?_)
              -- mq: cond
              first | refine CW.condD rfl (fun h50 => ?_) (fun h50 => ?_) | refine CW.cond rfl (fun h50 => ?_) (fun h50 => ?_)
              · skip
                refine CW.skip (EX.seq (CW.block (CW.region ?_)))
                refine RW.move rfl rfl ?_
                refine RW.add rfl rfl rfl (wrap64 (by omega) (by omega)) ?_
                refine RW.assign rfl rfl ?_
                refine RW.nil (EX.bkN ?_)
                -- mq: loopend
                have hke : k < e := by
                  rcases Nat.lt_or_ge k e with h | h
                  · exact h
                  · have : k = e := by omega
                    subst this
                    have := hcont (by omega)
                    rw [hck, h50] at this
                    cases this
                exact EX.lpN (k + 1) ⟨by omega, by omega⟩ (by omega) (by repeat (first | exact Sub.nil | refine Sub.cons (by rfl) ?_)) (fun w' hw' => hw')
              · skip
                have hke : k = e := by
                  rcases Nat.lt_or_ge k e with h | h
                  · exfalso
                    have h1 := hgood k (by omega) h
                    rw [lineL_succ, if_neg (by omega), hck, if_neg (by simp [h50])] at h1
                    omega
                  · omega
                subst hke
                refine CW.exit (EX.seqE (EX.lpE (EX.bkE ?_)))
                -- mq: joinend
                exact EX.jn (by repeat (first | exact Sub.nil | refine Sub.cons (by rfl) ?_)) (fun w' hw' => hw')
            · skip
              have h44p := of_decide_eq_false h44
              have hke : k = e := by omega
              subst hke
              refine RW.guardF rfl rfl rfl h44 ?_
              refine RW.guardF rfl rfl rfl h44 ?_
              refine RW.guardF rfl rfl rfl h44 ?_
              refine RW.guardF rfl rfl rfl h44 ?_
              refine RW.guardF rfl rfl rfl h44 ?_
              refine RW.pickC rfl rfl h44 rfl ?_
              refine RW.nil (EX.seq ?_)
              -- mq: cond
              refine CW.condF rfl (rfl) ?_
              refine CW.exit (EX.seqE (EX.lpE (EX.bkE ?_)))
              -- mq: joinend
              exact EX.jn (by repeat (first | exact Sub.nil | refine Sub.cons (by rfl) ?_)) (fun w' hw' => hw')
        · skip
          refine EX.seq (CW.seq (CW.region ?_))
          refine RW.move rfl rfl ?_
          refine RW.move rfl rfl ?_
          refine RW.move rfl rfl ?_
          -- mq: at
          have hcapn := hr.cap'
          have hseg : segOld rows ((i : Int), (e : Int)) = (rows.take e).drop i := by simp [segOld]
          have hcut := hr1.cut (p := i) (q := e) (by omega) hen
          rw [← hseg] at hcut
          refine RW.sliceSl i e sl24 rfl rfl (.inl ⟨_, _, rfl, rfl, rfl⟩) (.inl ⟨_, _, rfl, rfl, rfl⟩) (by omega) (by omega) ?_
          generalize hAo : (if c = i then A else A.map (·.add (i * 2))) = Ao at hcut ⊢
          have hsegs := sumLen_seg rows ((i : Int), (e : Int))
          refine RW.callK rfl ca22 rfl (fun w' hw' => refFlow_c w' _ Ao (e - i) (c - i) _ (hcut.ext hw'.ext (fun k hk => hin k hk.2)) (by omega) (by omega)) (fun w2 w3 A4 n4 c4 hw2 he23 hw3 hlt3 hrd4 => ?_)
          have hm4 := hrd4.len
          have hfl := flowF_length (segOld rows ((i : Int), (e : Int)))
          refine RW.move rfl rfl ?_
          -- mq: op 6: ('Op.call', ('Call.mk', ('Callee.value', ('Operand.func', '14')), ('arr', ('Operand.tmp', '57'), ('Operand.tmp', '58')), ('arr', '22', '3'))) -> slot 59 ("ref.go:131")
          refine RW.callA (R := fun w0 => IsRows (segF rows cols ((i : Int), (e : Int))) w0) rfl ca14 rfl (fun w' hw' => (refSplit_c w' _ A4 n4 c4 _ cols (hrd4.ext hw'.ext (fun k hk hk2 => by have := hlt3 k hk2; omega)) (by omega) (by omega) (by omega)).mono (fun e w'' h => h.toA)) ?_
          rintro w4 w5 v hw4 he45 hw5 hlt5 ⟨A5, n5, c5, rfl, hrd5⟩
          have hm5 := hrd5.len
          have hspl := splitF_le (flowF (segOld rows ((i : Int), (e : Int)))) cols hc1
          have hsegF : segF rows cols ((i : Int), (e : Int)) = splitF (flowF (segOld rows ((i : Int), (e : Int)))) cols := rfl
          rw [← hsegF] at hspl
          have hsub : ∀ x ∈ S, x < wi.heap.size → x ∈ S := fun x hx _ => hx
          rw [hS] at hlt3 hw4 hlt5 ⊢
          refine RW.assign rfl rfl ?_
          refine RW.nil (EX.seq (CW.seq (CW.seq (CW.region ?_))))
          refine RW.move rfl rfl ?_
          refine RW.assign rfl rfl ?_
          refine RW.nil (EX.seq (CW.block ?_))
          -- mq: loop
          refine CW.loop (ι := Nat × Value × Value) (fun t => [(0, .slice A rows.length c), (1, .int .i64 (cols : Int)), (2, .slice B m d), (8, .slice A8 rs.length c8), (9, t.2.1), (10, t.2.2), (11, .int .i64 (i : Int)), (12, .int .i64 (e : Int)), (13, .slice A5 n5 c5), (14, .int .i64 (t.1 : Int))]) (fun t => SH w5 S (chunksQ (.slice A8 rs.length c8) rs t.2.1 (begF rows cols L1 0 ++ List.replicate (t.1 - i) (rs.length : Int)) t.2.2 (endF rows cols L1 0 ++ List.replicate (t.1 - i) ((rs.length : Int) + (n5 : Int))))) (fun t => i ≤ t.1 ∧ t.1 ≤ e) (fun t => e - t.1) ?_ ?_
          · refine fun w' hw' => ⟨(i, v9, v10), ⟨Nat.le_refl _, by dsimp only; omega⟩, (by repeat (first | exact Sub.nil | refine Sub.cons (by rfl) ?_)), ?_⟩
            simpa using hw'
          · rintro ⟨j, v9', v10'⟩ ⟨hj1, hj2⟩
            dsimp only at hj1 hj2 ⊢
            refine CW.seq (CW.seq (CW.region ?_))
            refine RW.move rfl rfl ?_
            refine RW.move rfl rfl ?_
            refine RW.lss rfl rfl rfl ?_
            refine RW.nil (EX.seq ?_)
            -- mq: cond
            first | refine CW.condD rfl (fun h63 => ?_) (fun h63 => ?_) | refine CW.cond rfl (fun h63 => ?_) (fun h63 => ?_)
            · skip
              have hbl2 : (begF rows cols L1 0 ++ List.replicate (j - i) (rs.length : Int)).length = j := by rw [List.length_append, List.length_replicate]; omega
              have hel2 : (endF rows cols L1 0 ++ List.replicate (j - i) ((rs.length : Int) + (n5 : Int))).length = j := by rw [List.length_append, List.length_replicate]; omega
              refine CW.skip (EX.seq (CW.seq (CW.block (CW.seq (CW.region ?_)))))
              refine RW.move rfl rfl ?_
              refine RW.move rfl rfl ?_
              refine RW.lenSl Try.underlying24 rfl rfl ?_
              refine RW.buildSlc sl63 rfl rfl rfl rfl (fun g69 hg69 hf69 => ?_)
              refine RW.append1 sl63 rfl rfl rfl (by first | exact Rem.head | exact Rem.tail Rem.head | exact Rem.tail (Rem.tail Rem.head) | exact Rem.tail (Rem.tail (Rem.tail Rem.head)) | exact Rem.tail (Rem.tail (Rem.tail (Rem.tail Rem.head))) | exact Rem.tail (Rem.tail (Rem.tail (Rem.tail (Rem.tail Rem.head)))) | exact Rem.tail (Rem.tail (Rem.tail (Rem.tail (Rem.tail (Rem.tail Rem.head)))))) (fun _ => by first | exact Upd.head | exact Upd.tail Upd.head | exact Upd.tail (Upd.tail Upd.head) | exact Upd.tail (Upd.tail (Upd.tail Upd.head)) | exact Upd.tail (Upd.tail (Upd.tail (Upd.tail Upd.head))) | exact Upd.tail (Upd.tail (Upd.tail (Upd.tail (Upd.tail Upd.head)))) | exact Upd.tail (Upd.tail (Upd.tail (Upd.tail (Upd.tail (Upd.tail Upd.head)))))) rfl (by repeat (first | exact Ones.nil | exact Enc.ones _ _ | refine Ones.cons rfl ?_)) (by simp only [maxLen]; omega) (by omega) (fun v70 hv70 => ?_)
              refine RW.assign rfl rfl ?_
              refine RW.nil (EX.seq (CW.region ?_))
              refine RW.move rfl rfl ?_
              refine RW.move rfl rfl ?_
              refine RW.lenSl Try.underlying24 rfl rfl ?_
              refine RW.move rfl rfl ?_
              refine RW.lenSl Try.underlying24 rfl rfl ?_
              refine RW.add rfl rfl rfl (wrap64 (by omega) (by omega)) ?_
              refine RW.buildSlc sl63 rfl rfl rfl rfl (fun g77 hg77 hf77 => ?_)
              refine RW.append1 sl63 rfl rfl rfl (by first | exact Rem.head | exact Rem.tail Rem.head | exact Rem.tail (Rem.tail Rem.head) | exact Rem.tail (Rem.tail (Rem.tail Rem.head)) | exact Rem.tail (Rem.tail (Rem.tail (Rem.tail Rem.head))) | exact Rem.tail (Rem.tail (Rem.tail (Rem.tail (Rem.tail Rem.head)))) | exact Rem.tail (Rem.tail (Rem.tail (Rem.tail (Rem.tail (Rem.tail Rem.head)))))) (fun _ => by first | exact Upd.head | exact Upd.tail Upd.head | exact Upd.tail (Upd.tail Upd.head) | exact Upd.tail (Upd.tail (Upd.tail Upd.head)) | exact Upd.tail (Upd.tail (Upd.tail (Upd.tail Upd.head))) | exact Upd.tail (Upd.tail (Upd.tail (Upd.tail (Upd.tail Upd.head)))) | exact Upd.tail (Upd.tail (Upd.tail (Upd.tail (Upd.tail (Upd.tail Upd.head)))))) rfl (by repeat (first | exact Ones.nil | exact Enc.ones _ _ | refine Ones.cons rfl ?_)) (by simp only [maxLen]; omega) (by omega) (fun v78 hv78 => ?_)
              refine RW.assign rfl rfl ?_
              refine RW.nil (EX.bkN (EX.seq (CW.region ?_)))
              refine RW.move rfl rfl ?_
              refine RW.add rfl rfl rfl (wrap64 (by omega) (by omega)) ?_
              refine RW.assign rfl rfl ?_
              refine RW.nil ?_
              -- mq: loopend
              refine EX.lpN (j + 1, v70, v78) ⟨by dsimp only; omega, by dsimp only; omega⟩ (by dsimp only; omega) (by repeat (first | exact Sub.nil | refine Sub.cons (by rfl) ?_)) (fun w' hw' => ?_)
              have hx : ∀ (L : List Int) (x : Int), EInt.all (L ++ List.replicate (j + 1 - i) x) = EInt.all (L ++ List.replicate (j - i) x) ++ EInt.enc x := fun L x => by
                rw [show j + 1 - i = (j - i) + 1 by omega, List.replicate_succ', ← List.append_assoc, Enc.all_snoc]
              have hy : ∀ (L : List Int) (x : Int), (L ++ List.replicate (j + 1 - i) x).length = (L ++ List.replicate (j - i) x).length + 1 := fun L x => by
                rw [show j + 1 - i = (j - i) + 1 by omega, List.replicate_succ', ← List.append_assoc, List.length_append]; rfl
              dsimp only
              unfold chunksQ
              rw [hx, hx, hy, hy]
              exact hw'
            · skip
              have hje : j = e := by omega
              subst hje
              obtain ⟨rs5, g1, g2, g3⟩ := hrd5.prf
              have hl5 := g1.len
              refine CW.exit (EX.seqE (EX.lpE (EX.bkE (EX.seq ?_))))
              -- mq: region
              refine CW.region ?_
              refine RW.move rfl rfl ?_
              refine RW.move rfl rfl ?_
              -- mq: at
              refine RW.appendSl (E := ERow) (src := rs5) sl24 rfl rfl rfl (fun _ => by first | exact Upd.head | exact Upd.tail Upd.head | exact Upd.tail (Upd.tail Upd.head) | exact Upd.tail (Upd.tail (Upd.tail Upd.head)) | exact Upd.tail (Upd.tail (Upd.tail (Upd.tail Upd.head))) | exact Upd.tail (Upd.tail (Upd.tail (Upd.tail (Upd.tail Upd.head)))) | exact Upd.tail (Upd.tail (Upd.tail (Upd.tail (Upd.tail (Upd.tail Upd.head)))))) (fun w' hw' => g1.ext hw'.ext (fun k hk hk2 => by have := hlt5 k hk2; omega)) (by simp only [maxLen]; omega) (by omega) (fun v81 hv81 => ?_)
              refine RW.assign rfl rfl ?_
              refine RW.nil (EX.bkN (EX.seq (CW.region ?_)))
              refine RW.move rfl rfl ?_
              refine RW.add rfl rfl rfl (wrap64 (by omega) (by omega)) ?_
              refine RW.assign rfl rfl ?_
              refine RW.nil ?_
              -- mq: loopend
              have hbe : begF rows cols (L1 ++ [((i : Int), (j : Int))]) 0 = begF rows cols L1 0 ++ List.replicate (j - i) (rs.length : Int) := by
                rw [begF_app, begF, begF, List.append_nil, Nat.zero_add, hrd]
                congr 2
                dsimp only
                omega
              have hee : endF rows cols (L1 ++ [((i : Int), (j : Int))]) 0 = endF rows cols L1 0 ++ List.replicate (j - i) ((rs.length : Int) + (n5 : Int)) := by
                rw [endF_app, endF, endF, List.append_nil, Nat.zero_add, hrd, hm5]
                congr 2
                dsimp only
                omega
              have hc0 : contAt rows j = false := by
                rcases Nat.lt_or_ge j rows.length with h | h
                · exact hcont h
                · unfold contAt
                  rw [List.getElem?_eq_none h]
                  rfl
              have hout : outF rows cols (L1 ++ [((i : Int), (j : Int))]) = outF rows cols L1 ++ segF rows cols ((i : Int), (j : Int)) := outF_snoc _ _ _ _
              refine EX.lpW (fun w' hw' => ?_)
              have hck2 : SH w5 S (chunksQ v81 (rs ++ rs5) v9' (begF rows cols (L1 ++ [((i : Int), (j : Int))]) 0) v10' (endF rows cols (L1 ++ [((i : Int), (j : Int))]) 0)) w' := by
                unfold chunksQ
                rw [hbe, hee, List.length_append, Enc.all_append, hl5]
                exact hw'
              have hnb : ∀ k, k ∈ feet (chunksQ v81 (rs ++ rs5) v9' (begF rows cols (L1 ++ [((i : Int), (j : Int))]) 0) v10' (endF rows cols (L1 ++ [((i : Int), (j : Int))]) 0)) → k ∈ S ∨ w5.heap.size ≤ k := fun k hk => by
                rcases Nat.lt_or_ge k w5.heap.size with h | h
                · exact .inl (hck2.cov k hk h)
                · exact .inr h
              have heS : Ext S wi w' := ((((hw2.ext.trans0 he23).trans hw4.ext hsub).trans0 he45).trans hck2.ext hsub)
              have hsz4 : wi.heap.size ≤ w4.heap.size := Nat.le_trans (hw2.ext.trans0 he23).size hw4.ext.size
              have hsz5 : w4.heap.size ≤ w5.heap.size := he45.size
              have e1s := e1.size
              refine ⟨⟨w', v81, v9', v10', rs ++ rs5, L1 ++ [((i : Int), (j : Int))], L2, j, i + 1⟩, ⟨e1.trans heS (fun x hx hlt => absurd (fresh x hx) (by omega)), fun k r row hk hrow => ?_, ?_, fun g hg => ?_, by rw [parts, List.append_assoc]; rfl, chain_snoc hae hgood hc0 L1 0 ch1, hch', hae, fun j' h1 h2 => ?_, hen⟩, by dsimp only; omega, (by repeat (first | exact Sub.nil | refine Sub.cons (by rfl) ?_)), ?_⟩
              · have hk : (rs ++ rs5)[k]? = some r := hk
                rw [hout] at hrow
                by_cases hkl : k < rs.length
                · rw [List.getElem?_append_left hkl] at hk
                  rw [List.getElem?_append_left (by omega)] at hrow
                  exact (((nest k r row hk hrow).strong (by decide)).ext heS (fun k hk => hk.1.2)).weak (fun k hk => ⟨hk.1.1, fun hk2 => by
                    rcases hnb k hk2 with h | h
                    · exact hk.1.2 h
                    · have := hk.2; omega⟩)
                · rw [List.getElem?_append_right (by omega)] at hk
                  rw [List.getElem?_append_right (by omega), ← hrd] at hrow
                  exact (((g3 _ r row hk hrow).strong (by decide)).ext hck2.ext (fun k hk hk2 => by have := hlt5 k hk2; have := hk.1; omega)).weak (fun k hk => ⟨by have := hk.1; omega, fun hk2 => by
                    rcases hnb k hk2 with h | h
                    · have := hlt5 k h; have := hk.1; omega
                    · have := hk.2; omega⟩)
              · rw [hout, List.map_append, List.map_append, conts, g2]
              · rcases hnb g hg with h | h
                · exact fresh g h
                · omega
              · dsimp only at h1 h2
                rw [hgood j' (by omega) h2]
                omega
              · exact hck2.rebase
      · skip
        refine CW.skip (EX.bkN (EX.seq (CW.region ?_)))
        refine RW.move rfl rfl ?_
        refine RW.add rfl rfl rfl (wrap64 (by omega) (by omega)) ?_
        refine RW.assign rfl rfl ?_
        refine RW.nil ?_
        -- mq: loopend
        have his : i < s := by
          rcases Nat.lt_or_ge i s with h | h
          · exact h
          · exfalso
            have : i = s := by omega
            subst this
            cases L2 with
            | nil =>
              rcases hch with ⟨_, h⟩ | ⟨M, s, h, _⟩
              · omega
              · simp at h
            | cons ln L2 =>
              obtain ⟨e, rfl, hae, hen, hgood, hcont, hch'⟩ := chainE_step hch
              have := hgood i (Nat.le_refl _) hae
              omega
        refine EX.lpN ⟨wi, .slice A8 rs.length c8, v9, v10, rs, L1, L2, s, i + 1⟩ ⟨e1, ?_, conts, ?_, parts, ch1, hch, his, fun j h1 h2 => i2 j (by dsimp only at h1; omega) h2, s1⟩ (show rows.length - (i + 1) < rows.length - i by omega) (by repeat (first | exact Sub.nil | refine Sub.cons (by rfl) ?_)) ?_
        · rw [hS]; exact nest
        · rw [hS]; exact fresh
        · rw [hS]; exact fun w' hw' => hw'
    · skip
      have hsn : s = rows.length := by omega
      subst hsn
      have hL2 : L2 = [] := by
        cases L2 with
        | nil => rfl
        | cons ln L2 =>
          obtain ⟨e, _, hae, hen, _⟩ := chainE_step hch
          omega
      subst hL2
      rw [List.append_nil] at parts
      subst parts
      refine CW.formOwn (v := v9) (Has.tail Has.head) (fun A9 c9 hv9 hcap9 hmax9 hlen9 hg9 => ?_)
      subst hv9
      refine CW.formOwn (v := v10) (Has.tail (Has.tail Has.head)) (fun A10 c10 hv10 hcap10 hmax10 hlen10 hg10 => ?_)
      subst hv10
      generalize hBg : begF rows cols (linesL rows rows.length) 0 = bg at *
      generalize hEn : endF rows cols (linesL rows rows.length) 0 = en at *
      refine CW.exit (EX.seqE (EX.lpE (EX.bkE (EX.seq (CW.seq ?_)))))
      -- mq: region
      refine CW.ownNil 47 2 ?_
      refine CW.region ?_
      refine RW.assign rfl rfl ?_
      refine RW.nil (EX.seq (CW.seq (CW.seq (CW.region ?_))))
      refine RW.assign rfl rfl ?_
      refine RW.nil (EX.seq (CW.block ?_))
      -- mq: loop
      refine CW.loop (ι := Nat × Value) (fun t => [(0, .slice A rows.length c), (2, .slice B m d), (8, .slice A8 rs.length c8), (9, .slice A9 bg.length c9), (10, .slice A10 en.length c10), (15, t.2), (16, .int .i64 (t.1 : Int))]) (fun t => SH wi S (own 47 2 t.2 t.1 (EPos.all ((l.take t.1).map (posF rows cols))) :: chunksQ (.slice A8 rs.length c8) rs (.slice A9 bg.length c9) bg (.slice A10 en.length c10) en)) (fun t => t.1 ≤ m) (fun t => m - t.1) ?_ ?_
      · exact fun w' hw' => ⟨(0, .slice none 0 0), Nat.zero_le _, (by repeat (first | exact Sub.nil | refine Sub.cons (by rfl) ?_)), hw'⟩
      · rintro ⟨i, v15⟩ hi
        dsimp only at hi ⊢
        refine CW.seq (CW.seq (CW.region ?_))
        refine RW.move rfl rfl ?_
        refine RW.move rfl rfl ?_
        refine RW.lenSl Try.underlying51 rfl rfl ?_
        refine RW.lss rfl rfl rfl ?_
        refine RW.nil (EX.seq ?_)
        -- mq: cond
        first | refine CW.condD rfl (fun hlti => ?_) (fun hlti => ?_) | refine CW.cond rfl (fun hlti => ?_) (fun hlti => ?_)
        · skip
          obtain ⟨x, hxl⟩ : ∃ x, l[i]? = some x := ⟨l[i]'(by omega), List.getElem?_eq_getElem _⟩
          obtain ⟨xd, hBx, hxd, hxcell⟩ := hlp1.at_ hxl
          have hpx := hp x (List.mem_of_getElem? hxl)
          have hsnoc : ∀ q, posF rows cols x = q → EPos.all ((l.take (i + 1)).map (posF rows cols)) = EPos.all ((l.take i).map (posF rows cols)) ++ EPos.enc q := fun q hq => by
            rw [take_snoc' hxl, List.map_append, List.map_cons, List.map_nil, Enc.all_snoc, hq]
          refine CW.skip (EX.seq (CW.seq (CW.block (CW.seq (CW.region ?_)))))
          refine RW.move rfl rfl ?_
          refine RW.move rfl rfl ?_
          refine RW.ixAddr (q := i) sl51 rfl rfl rfl (by first | rfl | assumption) (by omega) (by omega) ?_
          refine RW.loadA ag47 rfl rfl (rfl) (fun w' hw' j u hj => hw'.base_cell (hxcell j u hj) (by rw [block_add, block_add]; exact hin _ hxd.2)) ?_
          refine RW.allocA ag47 rfl (fun g17 hg17 hf17 => ?_)
          refine RW.storeA ag47 rfl rfl (by first | exact Upd.head | exact Upd.tail Upd.head | exact Upd.tail (Upd.tail Upd.head) | exact Upd.tail (Upd.tail (Upd.tail Upd.head)) | exact Upd.tail (Upd.tail (Upd.tail (Upd.tail Upd.head))) | exact Upd.tail (Upd.tail (Upd.tail (Upd.tail (Upd.tail Upd.head)))) | exact Upd.tail (Upd.tail (Upd.tail (Upd.tail (Upd.tail (Upd.tail Upd.head)))))) (by first | rfl | exact Enc.len _ _) (by repeat (first | exact Ones.nil | exact Enc.ones _ _ | refine Ones.cons rfl ?_)) (by first | exact Nat.le_of_ble_eq_true rfl | (simp only [Enc.len]; decide)) ?_
          refine RW.nil (EX.seq (CW.seq ?_))
          -- mq: seq
          refine CW.join ([(0, .slice A rows.length c), (2, .slice B m d), (8, .slice A8 rs.length c8), (9, .slice A9 bg.length c9), (10, .slice A10 en.length c10), (15, v15), (16, .int .i64 (i : Int)), (17, .pointer (some ⟨g17, 0, none⟩))]) (SH wi S (blk g17 [.int .i64 (rowP x), .int .i64 (colP x)] 47 :: own 47 2 v15 i (EPos.all ((l.take i).map (posF rows cols))) :: chunksQ (.slice A8 rs.length c8) rs (.slice A9 bg.length c9) bg (.slice A10 en.length c10) en)) ?_ ?_
          · skip
            refine CW.seq (CW.region ?_)
            refine RW.fieldB fl47x0 rfl rfl ?_
            refine RW.loadB1 sc3 rfl rfl (by first | exact Has.head | exact Has.tail Has.head | exact Has.tail (Has.tail Has.head) | exact Has.tail (Has.tail (Has.tail Has.head)) | exact Has.tail (Has.tail (Has.tail (Has.tail Has.head))) | exact Has.tail (Has.tail (Has.tail (Has.tail (Has.tail Has.head)))) | exact Has.tail (Has.tail (Has.tail (Has.tail (Has.tail (Has.tail Has.head)))))) rfl ?_
            refine RW.lss rfl rfl rfl ?_
            refine RW.nil (EX.seq ?_)
            -- mq: cond
            first | refine CW.condD rfl (fun h94 => ?_) (fun h94 => ?_) | refine CW.cond rfl (fun h94 => ?_) (fun h94 => ?_)
            · skip
              refine CW.region ?_
              refine RW.buildS bu47 rfl rfl rfl ?_
              refine RW.storeA ag47 rfl rfl (by first | exact Upd.head | exact Upd.tail Upd.head | exact Upd.tail (Upd.tail Upd.head) | exact Upd.tail (Upd.tail (Upd.tail Upd.head)) | exact Upd.tail (Upd.tail (Upd.tail (Upd.tail Upd.head))) | exact Upd.tail (Upd.tail (Upd.tail (Upd.tail (Upd.tail Upd.head)))) | exact Upd.tail (Upd.tail (Upd.tail (Upd.tail (Upd.tail (Upd.tail Upd.head)))))) (by first | rfl | exact Enc.len _ _) (by repeat (first | exact Ones.nil | exact Enc.ones _ _ | refine Ones.cons rfl ?_)) (by first | exact Nat.le_of_ble_eq_true rfl | (simp only [Enc.len]; decide)) ?_
              refine RW.nil ?_
              -- mq: joinend
              refine EX.jn (by repeat (first | exact Sub.nil | refine Sub.cons (by rfl) ?_)) (fun w' hw' => ?_)
              have h1 : rowP x = 0 := by unfold rowP; omega
              have h2 : colP x = 0 := by unfold colP; rw [if_pos h94]
              rw [h1, h2]
              exact hw'
            · skip
              refine CW.skip ?_
              -- mq: joinend
              refine EX.jn (by repeat (first | exact Sub.nil | refine Sub.cons (by rfl) ?_)) (fun w' hw' => ?_)
              have h1 : rowP x = x.row := by unfold rowP; omega
              have h2 : colP x = x.col := by unfold colP; rw [if_neg h94]
              rw [h1, h2]
              exact hw'
          · skip
            refine EX.seq (CW.seq (CW.seq (CW.region ?_)))
            refine RW.fieldB fl47x0 rfl rfl ?_
            refine RW.loadB1 sc3 rfl rfl (by first | exact Has.head | exact Has.tail Has.head | exact Has.tail (Has.tail Has.head) | exact Has.tail (Has.tail (Has.tail Has.head)) | exact Has.tail (Has.tail (Has.tail (Has.tail Has.head))) | exact Has.tail (Has.tail (Has.tail (Has.tail (Has.tail Has.head)))) | exact Has.tail (Has.tail (Has.tail (Has.tail (Has.tail (Has.tail Has.head)))))) rfl ?_
            refine RW.move rfl rfl ?_
            refine RW.lenSl Try.underlying24 rfl rfl ?_
            refine RW.geq rfl rfl rfl ?_
            refine RW.nil (EX.seq ?_)
            -- mq: cond
            first | refine CW.condD rfl (fun h100 => ?_) (fun h100 => ?_) | refine CW.cond rfl (fun h100 => ?_) (fun h100 => ?_)
            · skip
              refine CW.seq (CW.region ?_)
              refine RW.move rfl rfl ?_
              refine RW.move rfl rfl ?_
              refine RW.lenSl Try.underlying24 rfl rfl ?_
              refine RW.buildS bu47 rfl rfl rfl ?_
              refine RW.buildSlc sl51 rfl rfl rfl rfl (fun g105 hg105 hf105 => ?_)
              refine RW.append1 sl51 rfl rfl rfl (by first | exact Rem.head | exact Rem.tail Rem.head | exact Rem.tail (Rem.tail Rem.head) | exact Rem.tail (Rem.tail (Rem.tail Rem.head)) | exact Rem.tail (Rem.tail (Rem.tail (Rem.tail Rem.head))) | exact Rem.tail (Rem.tail (Rem.tail (Rem.tail (Rem.tail Rem.head)))) | exact Rem.tail (Rem.tail (Rem.tail (Rem.tail (Rem.tail (Rem.tail Rem.head)))))) (fun _ => by first | exact Upd.head | exact Upd.tail Upd.head | exact Upd.tail (Upd.tail Upd.head) | exact Upd.tail (Upd.tail (Upd.tail Upd.head)) | exact Upd.tail (Upd.tail (Upd.tail (Upd.tail Upd.head))) | exact Upd.tail (Upd.tail (Upd.tail (Upd.tail (Upd.tail Upd.head)))) | exact Upd.tail (Upd.tail (Upd.tail (Upd.tail (Upd.tail (Upd.tail Upd.head)))))) rfl (by repeat (first | exact Ones.nil | exact Enc.ones _ _ | refine Ones.cons rfl ?_)) (by simp only [maxLen]; omega) (by omega) (fun v106 hv106 => ?_)
              refine RW.assign rfl rfl ?_
              refine RW.nil (EX.seq (CW.exit (EX.seqE (EX.bkE (EX.seq (CW.region ?_))))))
              refine RW.move rfl rfl ?_
              refine RW.add rfl rfl rfl (wrap64 (by omega) (by omega)) ?_
              refine RW.assign rfl rfl ?_
              refine RW.nil ?_
              -- mq: loopend
              refine EX.lpN (i + 1, v106) (by dsimp only; omega) (by dsimp only; omega) (by repeat (first | exact Sub.nil | refine Sub.cons (by rfl) ?_)) (fun w' hw' => ?_)
              have hpos : posF rows cols x = ⟨(rs.length : Int), 0⟩ := by rw [posF, if_pos (by unfold rowP at h100; omega), hrd]
              dsimp only
              rw [hsnoc _ hpos]
              exact hw'.rem Rem.head
            · skip
              generalize hrx : rowP x = rx at *
              obtain ⟨r, rfl⟩ : ∃ r : Nat, rx = r := ⟨rx.toNat, by unfold rowP at hrx; omega⟩
              have hrn : r < rows.length := by omega
              obtain ⟨M1, a, e, M2, hL, hc1', ha, he, hen, hg, hce, hc2'⟩ := find_line _ 0 r (linesL_chain rows rows.length) (by omega) hrn
              have hpos := posF_line (cols := cols) hL hc1' hc2' hrx ha he hen
              obtain ⟨hbr, her⟩ := beg_at (cols := cols) hL hc1' ha he
              rw [hBg] at hbr
              rw [hEn] at her
              obtain ⟨hcutO, hcutL⟩ := out_cut (cols := cols) hL
              have hla : lineL rows r = a := hg r ha he
              refine CW.skip (EX.seq (CW.seq ?_))
              -- mq: region
              refine CW.region ?_
              refine RW.move rfl rfl ?_
              refine RW.fieldB fl47x0 rfl rfl ?_
              refine RW.loadB1 sc3 rfl rfl (by first | exact Has.head | exact Has.tail Has.head | exact Has.tail (Has.tail Has.head) | exact Has.tail (Has.tail (Has.tail Has.head)) | exact Has.tail (Has.tail (Has.tail (Has.tail Has.head))) | exact Has.tail (Has.tail (Has.tail (Has.tail (Has.tail Has.head)))) | exact Has.tail (Has.tail (Has.tail (Has.tail (Has.tail (Has.tail Has.head)))))) rfl ?_
              -- mq: at
              refine RW.call rfl ca21 rfl (fun w' hw' => Line_c w' _ A rows.length c rows (hr1.ext hw'.ext (fun k hk => hin k hk.2)) (by omega) r hrn) ?_
              rw [hla]
              refine RW.assign rfl rfl ?_
              refine RW.nil (EX.seq (CW.seq (CW.region ?_)))
              refine RW.fieldB fl47x0 rfl rfl ?_
              refine RW.loadB1 sc3 rfl rfl (by first | exact Has.head | exact Has.tail Has.head | exact Has.tail (Has.tail Has.head) | exact Has.tail (Has.tail (Has.tail Has.head)) | exact Has.tail (Has.tail (Has.tail (Has.tail Has.head))) | exact Has.tail (Has.tail (Has.tail (Has.tail (Has.tail Has.head)))) | exact Has.tail (Has.tail (Has.tail (Has.tail (Has.tail (Has.tail Has.head)))))) rfl ?_
              refine RW.add rfl rfl rfl (wrap64 (by omega) (by omega)) ?_
              refine RW.assign rfl rfl ?_
              refine RW.nil (EX.seq (CW.seq ?_))
              -- mq: block
              refine CW.join ([(0, .slice A rows.length c), (2, .slice B m d), (8, .slice A8 rs.length c8), (9, .slice A9 bg.length c9), (10, .slice A10 en.length c10), (15, v15), (16, .int .i64 (i : Int)), (17, .pointer (some ⟨g17, 0, none⟩)), (18, .int .i64 (a : Int)), (19, .int .i64 (e : Int))]) (SH wi S (blk g17 [.int .i64 (r : Int), .int .i64 (colP x)] 47 :: own 47 2 v15 i (EPos.all ((l.take i).map (posF rows cols))) :: chunksQ (.slice A8 rs.length c8) rs (.slice A9 bg.length c9) bg (.slice A10 en.length c10) en)) ?_ ?_
              · skip
                refine CW.block ?_
                -- mq: loop
                refine CW.loop (ι := Nat) (fun k => [(0, .slice A rows.length c), (2, .slice B m d), (8, .slice A8 rs.length c8), (9, .slice A9 bg.length c9), (10, .slice A10 en.length c10), (15, v15), (16, .int .i64 (i : Int)), (17, .pointer (some ⟨g17, 0, none⟩)), (18, .int .i64 (a : Int)), (19, .int .i64 (k : Int))]) (fun _ => SH wi S (blk g17 [.int .i64 (r : Int), .int .i64 (colP x)] 47 :: own 47 2 v15 i (EPos.all ((l.take i).map (posF rows cols))) :: chunksQ (.slice A8 rs.length c8) rs (.slice A9 bg.length c9) bg (.slice A10 en.length c10) en)) (fun k => r + 1 ≤ k ∧ k ≤ e) (fun k => e - k) ?_ ?_
                · exact fun w' hw' => ⟨r + 1, ⟨Nat.le_refl _, he⟩, Sub.cons (by rfl) (Sub.cons (by rfl) (Sub.cons (by rfl) (Sub.cons (by rfl) (Sub.cons (by rfl) (Sub.cons (by rfl) (Sub.cons (by rfl) (Sub.cons (by rfl) (Sub.cons (by rfl) (Sub.cons (by simp [look]) Sub.nil))))))))), hw'⟩
                · rintro k ⟨hk1, hk2⟩
                  refine CW.seq (CW.seq (CW.region ?_))
                  refine RW.move rfl rfl ?_
                  refine RW.move rfl rfl ?_
                  refine RW.lenSl Try.underlying24 rfl rfl ?_
                  refine RW.lss rfl rfl rfl ?_
                  refine RW.move rfl rfl ?_
                  -- mq: guard slot 118
                  refine RW.casesB 118 rfl (fun h118 => ?_) (fun h118 => ?_)
                  · skip
                    have h118p := of_decide_eq_true h118
                    obtain ⟨row, hrow⟩ : ∃ row, rows[k]? = some row := ⟨rows[k]'(by omega), List.getElem?_eq_getElem _⟩
                    obtain ⟨ad, B2, m2, d2, hA2, had2, hcell2, hrd2⟩ := hr1.at_ hrow
                    have hck : contAt rows k = row.2 := by unfold contAt; rw [hrow]; rfl
                    refine RW.guardT rfl rfl h118 ?_
                    refine RW.move rfl rfl ?_
                    refine RW.guardT rfl rfl h118 ?_
                    refine RW.move rfl rfl ?_
                    refine RW.guardT rfl rfl h118 ?_
                    refine RW.ixAddr (q := k) sl24 rfl rfl rfl (by first | rfl | assumption) (by omega) (by omega) ?_
                    refine RW.guardT rfl rfl h118 ?_
                    refine RW.fieldP fl45x1 rfl rfl ?_
                    refine RW.guardT rfl rfl h118 ?_
                    refine RW.load1 sc4 rfl rfl (fun w' hw' => hw'.base_cell (hcell2 1 _ rfl) (by rw [block_add, block_add]; exact hin _ had2.2)) ?_
                    refine RW.pickB rfl rfl h118 rfl ?_
                    refine RW.nil (EX.seq ?_)
                    -- mq: cond
                    first | refine CW.condD rfl (fun h124 => ?_) (fun h124 => ?_) | refine CW.cond rfl (fun h124 => ?_) (fun h124 => ?_)
                    · skip
                      refine CW.skip (EX.seq (CW.block (CW.region ?_)))
                      refine RW.move rfl rfl ?_
                      refine RW.add rfl rfl rfl (wrap64 (by omega) (by omega)) ?_
                      refine RW.assign rfl rfl ?_
                      refine RW.nil (EX.bkN ?_)
                      -- mq: loopend
                      have hke : k < e := by
                        rcases Nat.lt_or_ge k e with h | h
                        · exact h
                        · have : k = e := by omega
                          subst this
                          have := hce (by omega)
                          rw [hck, h124] at this
                          cases this
                      exact EX.lpN (k + 1) ⟨by omega, by omega⟩ (by omega) (by repeat (first | exact Sub.nil | refine Sub.cons (by rfl) ?_)) (fun w' hw' => hw')
                    · skip
                      have hke : k = e := by
                        rcases Nat.lt_or_ge k e with h | h
                        · exfalso
                          have h1 := hg k (by omega) h
                          rw [lineL_succ, if_neg (by omega), hck, if_neg (by simp [h124])] at h1
                          omega
                        · omega
                      subst hke
                      refine CW.exit (EX.seqE (EX.lpE (EX.bkE ?_)))
                      -- mq: joinend
                      exact EX.jn (by repeat (first | exact Sub.nil | refine Sub.cons (by rfl) ?_)) (fun w' hw' => hw')
                  · skip
                    have h118p := of_decide_eq_false h118
                    have hke : k = e := by omega
                    subst hke
                    refine RW.guardF rfl rfl rfl h118 ?_
                    refine RW.guardF rfl rfl rfl h118 ?_
                    refine RW.guardF rfl rfl rfl h118 ?_
                    refine RW.guardF rfl rfl rfl h118 ?_
                    refine RW.guardF rfl rfl rfl h118 ?_
                    refine RW.pickC rfl rfl h118 rfl ?_
                    refine RW.nil (EX.seq ?_)
                    -- mq: cond
                    refine CW.condF rfl (rfl) ?_
                    refine CW.exit (EX.seqE (EX.lpE (EX.bkE ?_)))
                    -- mq: joinend
                    exact EX.jn (by repeat (first | exact Sub.nil | refine Sub.cons (by rfl) ?_)) (fun w' hw' => hw')
              · skip
                have hcapn := hr.cap'
                have hseg : segOld rows ((a : Int), (e : Int)) = (rows.take e).drop a := by simp [segOld]
                have hcut := hr1.cut (p := a) (q := e) (by omega) hen
                rw [← hseg] at hcut
                generalize hAo : (if c = a then A else A.map (·.add (a * 2))) = Ao at hcut
                have hsegs := sumLen_seg rows ((a : Int), (e : Int))
                have hoff := offR_bd (segOld rows ((a : Int), (e : Int))) ⟨(r : Int) - (a : Int), colP x⟩
                refine EX.seq (CW.seq ?_)
                -- mq: region
                refine CW.drawS [true, true, true, true, true, true, true, true, true, true, true, false, false] 0 (SH wi S (blk g17 [.int .i64 (r : Int), .int .i64 (colP x)] 47 :: own 47 2 v15 i (EPos.all ((l.take i).map (posF rows cols))) :: chunksQ (.slice A8 rs.length c8) rs (.slice A9 bg.length c9) bg (.slice A10 en.length c10) en)) mixed (by kernel_rfl) (fun _ hw => hw.drew) (fun _ h => by first | exact h | (have h1 := h.rem Rem.head; first | exact h1 | (have h2 := h1.rem Rem.head; first | exact h2 | (have h3 := h2.rem Rem.head; exact h3)))) (by repeat (first | exact NoP.fin | exact NoP.jn | refine NoP.sq ?_ | refine NoP.bk ?_ | refine NoP.lp ?_)) ?_
                refine QuW.cons rfl (fun wq hq => (RW.move rfl rfl RW.jn)) ?_
                refine QuW.cons rfl (fun wq hq => (RW.move rfl rfl RW.jn)) ?_
                refine QuW.cons rfl (fun wq hq => (RW.move rfl rfl RW.jn)) ?_
                refine QuW.cons rfl (fun wq hq => (RW.sliceSl a e sl24 rfl rfl (.inl ⟨_, _, rfl, rfl, rfl⟩) (.inl ⟨_, _, rfl, rfl, rfl⟩) (by omega) (by omega) RW.jn)) ?_
                refine QuW.cons rfl (fun wq hq => (RW.fieldB fl47x0 rfl rfl RW.jn)) ?_
                refine QuW.cons rfl (fun wq hq => (RW.load1 sc3 rfl rfl (fun w1 e1 => by subst e1; exact hq.blk_cell (by first | exact Has.head | exact Has.tail Has.head | exact Has.tail (Has.tail Has.head) | exact Has.tail (Has.tail (Has.tail Has.head)) | exact Has.tail (Has.tail (Has.tail (Has.tail Has.head))) | exact Has.tail (Has.tail (Has.tail (Has.tail (Has.tail Has.head)))) | exact Has.tail (Has.tail (Has.tail (Has.tail (Has.tail (Has.tail Has.head)))))) rfl) RW.jn)) ?_
                refine QuW.cons rfl (fun wq hq => (RW.move rfl rfl RW.jn)) ?_
                refine QuW.cons rfl (fun wq hq => (RW.sub_ rfl rfl rfl (wrap64 (by omega) (by omega)) RW.jn)) ?_
                refine QuW.cons rfl (fun wq hq => (RW.fieldB fl47x1 rfl rfl RW.jn)) ?_
                refine QuW.cons rfl (fun wq hq => (RW.load1 sc3 rfl rfl (fun w1 e1 => by subst e1; exact hq.blk_cell (by first | exact Has.head | exact Has.tail Has.head | exact Has.tail (Has.tail Has.head) | exact Has.tail (Has.tail (Has.tail Has.head)) | exact Has.tail (Has.tail (Has.tail (Has.tail Has.head))) | exact Has.tail (Has.tail (Has.tail (Has.tail (Has.tail Has.head)))) | exact Has.tail (Has.tail (Has.tail (Has.tail (Has.tail (Has.tail Has.head)))))) rfl) RW.jn)) ?_
                refine QuW.cons rfl (fun wq hq => (RW.buildS bu47 rfl rfl rfl RW.jn)) ?_
                refine QuW.skip ?_
                refine QuW.skip ?_
                refine QuW.nil ?_
                refine SpW.hard ?_
                rw [hAo]
                refine RW.call rfl ca24 rfl (fun w' hw' => refOffset_c w' _ Ao (e - a) (c - a) _ (hcut.ext hw'.ext (fun k hk => hin k hk.2)) ((r : Int) - (a : Int)) (colP x) (by omega) (by omega)) ?_
                generalize ho : offR (segOld rows ((a : Int), (e : Int))) ⟨(r : Int) - (a : Int), colP x⟩ = off at hoff
                have hflo := flowF_length (segOld rows ((a : Int), (e : Int)))
                have hspl := splitF_le (flowF (segOld rows ((a : Int), (e : Int)))) cols hc1
                have hsegF : segF rows cols ((a : Int), (e : Int)) = splitF (flowF (segOld rows ((a : Int), (e : Int)))) cols := rfl
                rw [← hsegF] at hspl
                have hseglen : sumLen (segF rows cols ((a : Int), (e : Int))) ≤ 1000000 := by
                  rw [hspl.2]
                  calc _ ≤ 700 * 1000 := Nat.mul_le_mul (by omega) hc2
                    _ ≤ 1000000 := by decide
                have hpl := placeR_bd (segF rows cols ((a : Int), (e : Int))) off (by omega)
                have hOut : ∀ w', Ext S wi w' → (own 45 2 (.slice A8 rs.length c8) rs.length (ERow.all rs)).pred w' → RdRows w' (fun _ => True) (if c8 = (outF rows cols M1).length then A8 else A8.map (·.add ((outF rows cols M1).length * 2))) (segF rows cols ((a : Int), (e : Int))).length (c8 - (outF rows cols M1).length) (segF rows cols ((a : Int), (e : Int))) := fun w' hx ho => by
                  obtain ⟨A6, c6, he6, hrd6⟩ := Rd.of_own (E := ERow) ho rfl
                  cases he6
                  have hR : RdRows w' (fun _ => True) A8 rs.length c8 (outF rows cols (linesL rows rows.length)) := ⟨rs, hrd6.weak (fun _ _ => trivial), conts, fun k r row hk hrow => ((nest k r row hk hrow).ext hx (fun k hk => hk.2)).weak (fun _ _ => trivial)⟩
                  have := hR.cut (p := (outF rows cols M1).length) (q := (outF rows cols M1).length + (segF rows cols ((a : Int), (e : Int))).length) (by omega) (by omega)
                  rw [hcutO, Nat.add_sub_cancel_left] at this
                  exact this
                generalize hAO : (if c8 = (outF rows cols M1).length then A8 else A8.map (·.add ((outF rows cols M1).length * 2))) = AO at hOut
                obtain ⟨g9, rfl⟩ := hg9 (by omega)
                obtain ⟨g10, rfl⟩ := hg10 (by omega)
                refine RW.assign rfl rfl ?_
                refine RW.nil (EX.seq (CW.seq ?_))
                -- mq: region
                refine CW.joinI (fun g21 : Nat => [(0, .slice A rows.length c), (2, .slice B m d), (8, .slice A8 rs.length c8), (9, .slice (some ⟨g9, 0, none⟩) bg.length c9), (10, .slice (some ⟨g10, 0, none⟩) en.length c10), (15, v15), (16, .int .i64 (i : Int)), (17, .pointer (some ⟨g17, 0, none⟩)), (21, .pointer (some ⟨g21, 0, none⟩))]) (fun g21 => SH wi S (blk g21 (placeR (segF rows cols ((a : Int), (e : Int))) off).enc 47 :: blk g17 [.int .i64 (r : Int), .int .i64 (colP x)] 47 :: own 47 2 v15 i (EPos.all ((l.take i).map (posF rows cols))) :: chunksQ (.slice A8 rs.length c8) rs (.slice (some ⟨g9, 0, none⟩) bg.length c9) bg (.slice (some ⟨g10, 0, none⟩) en.length c10) en)) (fun g21 => True) ?_ ?_
                · skip
                  refine CW.drawT [true, true, true, true, true, true, true, true, true, true, true, true, true, false, false, false] [14, 13, 15] [[13, 14, 15]] 2 (SH wi S (blk g17 [.int .i64 (r : Int), .int .i64 (colP x)] 47 :: own 47 2 v15 i (EPos.all ((l.take i).map (posF rows cols))) :: chunksQ (.slice A8 rs.length c8) rs (.slice (some ⟨g9, 0, none⟩) bg.length c9) bg (.slice (some ⟨g10, 0, none⟩) en.length c10) en)) mixed (by kernel_rfl) (fun _ hw => hw.drew) (fun _ h => by first | exact h | (have h1 := h.rem Rem.head; first | exact h1 | (have h2 := h1.rem Rem.head; first | exact h2 | (have h3 := h2.rem Rem.head; exact h3)))) (by repeat (first | exact NoP.fin | exact NoP.jn | exact NoP.jnI | refine NoP.sq ?_ | refine NoP.bk ?_ | refine NoP.lp ?_)) ?_
                  refine QuW.cons rfl (fun wq hq => (RW.move rfl rfl RW.jn)) ?_
                  refine QuW.cons rfl (fun wq hq => (RW.move rfl rfl RW.jn)) ?_
                  refine QuW.cons rfl (fun wq hq => (RW.fieldB fl47x0 rfl rfl RW.jn)) ?_
                  refine QuW.cons rfl (fun wq hq => (RW.load1 sc3 rfl rfl (fun w1 e1 => by subst e1; exact hq.blk_cell (by first | exact Has.head | exact Has.tail Has.head | exact Has.tail (Has.tail Has.head) | exact Has.tail (Has.tail (Has.tail Has.head)) | exact Has.tail (Has.tail (Has.tail (Has.tail Has.head))) | exact Has.tail (Has.tail (Has.tail (Has.tail (Has.tail Has.head)))) | exact Has.tail (Has.tail (Has.tail (Has.tail (Has.tail (Has.tail Has.head)))))) rfl) RW.jn)) ?_
                  refine QuW.cons rfl (fun wq hq => (RW.ixAddr (q := r) sl63 rfl rfl rfl (by first | rfl | assumption) (by omega) (by omega) RW.jn)) ?_
                  refine QuW.cons rfl (fun wq hq => (RW.load1 sc3 rfl rfl (fun w1 e1 => by subst e1; exact (hq.own_at (E := EInt) (by first | exact Has.head | exact Has.tail Has.head | exact Has.tail (Has.tail Has.head) | exact Has.tail (Has.tail (Has.tail Has.head)) | exact Has.tail (Has.tail (Has.tail (Has.tail Has.head))) | exact Has.tail (Has.tail (Has.tail (Has.tail (Has.tail Has.head)))) | exact Has.tail (Has.tail (Has.tail (Has.tail (Has.tail (Has.tail Has.head)))))) hbr 0 _ rfl)) RW.jn)) ?_
                  refine QuW.cons rfl (fun wq hq => (RW.move rfl rfl RW.jn)) ?_
                  refine QuW.cons rfl (fun wq hq => (RW.fieldB fl47x0 rfl rfl RW.jn)) ?_
                  refine QuW.cons rfl (fun wq hq => (RW.load1 sc3 rfl rfl (fun w1 e1 => by subst e1; exact hq.blk_cell (by first | exact Has.head | exact Has.tail Has.head | exact Has.tail (Has.tail Has.head) | exact Has.tail (Has.tail (Has.tail Has.head)) | exact Has.tail (Has.tail (Has.tail (Has.tail Has.head))) | exact Has.tail (Has.tail (Has.tail (Has.tail (Has.tail Has.head)))) | exact Has.tail (Has.tail (Has.tail (Has.tail (Has.tail (Has.tail Has.head)))))) rfl) RW.jn)) ?_
                  refine QuW.cons rfl (fun wq hq => (RW.ixAddr (q := r) sl63 rfl rfl rfl (by first | rfl | assumption) (by omega) (by omega) RW.jn)) ?_
                  refine QuW.cons rfl (fun wq hq => (RW.load1 sc3 rfl rfl (fun w1 e1 => by subst e1; exact (hq.own_at (E := EInt) (by first | exact Has.head | exact Has.tail Has.head | exact Has.tail (Has.tail Has.head) | exact Has.tail (Has.tail (Has.tail Has.head)) | exact Has.tail (Has.tail (Has.tail (Has.tail Has.head))) | exact Has.tail (Has.tail (Has.tail (Has.tail (Has.tail Has.head)))) | exact Has.tail (Has.tail (Has.tail (Has.tail (Has.tail (Has.tail Has.head)))))) her 0 _ rfl)) RW.jn)) ?_
                  refine QuW.cons rfl (fun wq hq => (RW.sliceSl (outF rows cols M1).length ((outF rows cols M1).length + (segF rows cols ((a : Int), (e : Int))).length) sl24 rfl rfl (.inl ⟨_, _, rfl, rfl, rfl⟩) (.inl ⟨_, _, rfl, rfl, by omega⟩) (by omega) (by omega) RW.jn)) ?_
                  refine QuW.cons rfl (fun wq hq => (RW.move rfl rfl RW.jn)) ?_
                  refine QuW.skip ?_
                  refine QuW.skip ?_
                  refine QuW.skip ?_
                  refine QuW.nil ?_
                  refine List.forall_mem_cons.2 ⟨?_, List.forall_mem_cons.2 ⟨?_, by simp⟩⟩
                  · skip
                    refine SpW.soft ?_
                    refine RW.allocA ag47 rfl (fun g21 hg21 hf21 => ?_)
                    refine RW.sp1 (fun _ h => by first | exact h | (have h1 := h.rem Rem.head; first | exact h1 | (have h2 := h1.rem Rem.head; first | exact h2 | (have h3 := h2.rem Rem.head; exact h3)))) ?_
                    refine SpW.soft ?_
                    -- mq: op 13: ('Op.call', ('Call.mk', ('Callee.value', ('Operand.func', '26')), ('arr', ('Operand.tmp', '150'), ('Operand.tmp', '151')), ('arr', '24', '3'))) -> slot 152 ("ref.go:155")
                    rw [hAO, Nat.add_sub_cancel_left]
                    refine RW.call rfl ca26 rfl (fun w' hw' => refPlace_c w' _ AO (segF rows cols ((a : Int), (e : Int))).length (c8 - (outF rows cols M1).length) _ (hOut w' hw'.ext (hw'.has (by first | exact Has.head | exact Has.tail Has.head | exact Has.tail (Has.tail Has.head) | exact Has.tail (Has.tail (Has.tail Has.head)) | exact Has.tail (Has.tail (Has.tail (Has.tail Has.head))) | exact Has.tail (Has.tail (Has.tail (Has.tail (Has.tail Has.head)))) | exact Has.tail (Has.tail (Has.tail (Has.tail (Has.tail (Has.tail Has.head)))))))) _ (by omega) (by omega) hseglen) ?_
                    refine RW.sp1 (fun _ h => by first | exact h | (have h1 := h.rem Rem.head; first | exact h1 | (have h2 := h1.rem Rem.head; first | exact h2 | (have h3 := h2.rem Rem.head; exact h3)))) ?_
                    refine SpW.hard ?_
                    refine RW.storeA ag47 rfl rfl (by first | exact Upd.head | exact Upd.tail Upd.head | exact Upd.tail (Upd.tail Upd.head) | exact Upd.tail (Upd.tail (Upd.tail Upd.head)) | exact Upd.tail (Upd.tail (Upd.tail (Upd.tail Upd.head))) | exact Upd.tail (Upd.tail (Upd.tail (Upd.tail (Upd.tail Upd.head)))) | exact Upd.tail (Upd.tail (Upd.tail (Upd.tail (Upd.tail (Upd.tail Upd.head)))))) (by first | rfl | exact Enc.len _ _) (by repeat (first | exact Ones.nil | exact Enc.ones _ _ | refine Ones.cons rfl ?_)) (by first | exact Nat.le_of_ble_eq_true rfl | (simp only [Enc.len]; decide)) ?_
                    refine RW.nil ?_
                    -- mq: joinend
                    exact EX.jnI g21 trivial (by repeat (first | exact Sub.nil | refine Sub.cons (by rfl) ?_)) (fun w' hw' => hw')
                  · skip
                    refine SpW.soft ?_
                    rw [hAO, Nat.add_sub_cancel_left]
                    refine RW.call rfl ca26 rfl (fun w' hw' => refPlace_c w' _ AO (segF rows cols ((a : Int), (e : Int))).length (c8 - (outF rows cols M1).length) _ (hOut w' hw'.ext (hw'.has (by first | exact Has.head | exact Has.tail Has.head | exact Has.tail (Has.tail Has.head) | exact Has.tail (Has.tail (Has.tail Has.head)) | exact Has.tail (Has.tail (Has.tail (Has.tail Has.head))) | exact Has.tail (Has.tail (Has.tail (Has.tail (Has.tail Has.head)))) | exact Has.tail (Has.tail (Has.tail (Has.tail (Has.tail (Has.tail Has.head)))))))) _ (by omega) (by omega) hseglen) ?_
                    refine RW.sp1 (fun _ h => by first | exact h | (have h1 := h.rem Rem.head; first | exact h1 | (have h2 := h1.rem Rem.head; first | exact h2 | (have h3 := h2.rem Rem.head; exact h3)))) ?_
                    refine SpW.soft ?_
                    refine RW.allocA ag47 rfl (fun g21 hg21 hf21 => ?_)
                    refine RW.sp1 (fun _ h => by first | exact h | (have h1 := h.rem Rem.head; first | exact h1 | (have h2 := h1.rem Rem.head; first | exact h2 | (have h3 := h2.rem Rem.head; exact h3)))) ?_
                    refine SpW.hard ?_
                    refine RW.storeA ag47 rfl rfl (by first | exact Upd.head | exact Upd.tail Upd.head | exact Upd.tail (Upd.tail Upd.head) | exact Upd.tail (Upd.tail (Upd.tail Upd.head)) | exact Upd.tail (Upd.tail (Upd.tail (Upd.tail Upd.head))) | exact Upd.tail (Upd.tail (Upd.tail (Upd.tail (Upd.tail Upd.head)))) | exact Upd.tail (Upd.tail (Upd.tail (Upd.tail (Upd.tail (Upd.tail Upd.head)))))) (by first | rfl | exact Enc.len _ _) (by repeat (first | exact Ones.nil | exact Enc.ones _ _ | refine Ones.cons rfl ?_)) (by first | exact Nat.le_of_ble_eq_true rfl | (simp only [Enc.len]; decide)) ?_
                    refine RW.nil ?_
                    -- mq: joinend
                    exact EX.jnI g21 trivial (by repeat (first | exact Sub.nil | refine Sub.cons (by rfl) ?_)) (fun w' hw' => hw')
                · skip
                  rintro g21 -
                  have hnew : newPos rows cols (outF rows cols M1).length ((a : Int), (e : Int)) x = ⟨((outF rows cols M1).length : Int) + (placeR (segF rows cols ((a : Int), (e : Int))) off).row, (placeR (segF rows cols ((a : Int), (e : Int))) off).col⟩ := by
                    rw [newPos, hrx, ho, Int.add_comm]
                  rw [hnew] at hpos
                  generalize placeR (segF rows cols ((a : Int), (e : Int))) off = q at *
                  refine EX.seq ?_
                  -- mq: region
                  refine CW.drawS [true, true, true, true, true, true, true, true, true, true, true, true, false, false, false] 1 (SH wi S (blk g21 q.enc 47 :: blk g17 [.int .i64 (r : Int), .int .i64 (colP x)] 47 :: own 47 2 v15 i (EPos.all ((l.take i).map (posF rows cols))) :: chunksQ (.slice A8 rs.length c8) rs (.slice (some ⟨g9, 0, none⟩) bg.length c9) bg (.slice (some ⟨g10, 0, none⟩) en.length c10) en)) mixed (by kernel_rfl) (fun _ hw => hw.drew) (fun _ h => by first | exact h | (have h1 := h.rem Rem.head; first | exact h1 | (have h2 := h1.rem Rem.head; first | exact h2 | (have h3 := h2.rem Rem.head; exact h3)))) (by repeat (first | exact NoP.fin | exact NoP.jn | refine NoP.sq ?_ | refine NoP.bk ?_ | refine NoP.lp ?_)) ?_
                  refine QuW.cons rfl (fun wq hq => (RW.move rfl rfl RW.jn)) ?_
                  refine QuW.cons rfl (fun wq hq => (RW.move rfl rfl RW.jn)) ?_
                  refine QuW.cons rfl (fun wq hq => (RW.fieldB fl47x0 rfl rfl RW.jn)) ?_
                  refine QuW.cons rfl (fun wq hq => (RW.load1 sc3 rfl rfl (fun w1 e1 => by subst e1; exact hq.blk_cell (by first | exact Has.head | exact Has.tail Has.head | exact Has.tail (Has.tail Has.head) | exact Has.tail (Has.tail (Has.tail Has.head)) | exact Has.tail (Has.tail (Has.tail (Has.tail Has.head))) | exact Has.tail (Has.tail (Has.tail (Has.tail (Has.tail Has.head)))) | exact Has.tail (Has.tail (Has.tail (Has.tail (Has.tail (Has.tail Has.head)))))) rfl) RW.jn)) ?_
                  refine QuW.cons rfl (fun wq hq => (RW.ixAddr (q := r) sl63 rfl rfl rfl (by first | rfl | assumption) (by omega) (by omega) RW.jn)) ?_
                  refine QuW.cons rfl (fun wq hq => (RW.load1 sc3 rfl rfl (fun w1 e1 => by subst e1; exact (hq.own_at (E := EInt) (by first | exact Has.head | exact Has.tail Has.head | exact Has.tail (Has.tail Has.head) | exact Has.tail (Has.tail (Has.tail Has.head)) | exact Has.tail (Has.tail (Has.tail (Has.tail Has.head))) | exact Has.tail (Has.tail (Has.tail (Has.tail (Has.tail Has.head)))) | exact Has.tail (Has.tail (Has.tail (Has.tail (Has.tail (Has.tail Has.head)))))) hbr 0 _ rfl)) RW.jn)) ?_
                  refine QuW.cons rfl (fun wq hq => (RW.fieldB fl47x0 rfl rfl RW.jn)) ?_
                  refine QuW.cons rfl (fun wq hq => (RW.load1 sc3 rfl rfl (fun w1 e1 => by subst e1; exact hq.blk_cell (by first | exact Has.head | exact Has.tail Has.head | exact Has.tail (Has.tail Has.head) | exact Has.tail (Has.tail (Has.tail Has.head)) | exact Has.tail (Has.tail (Has.tail (Has.tail Has.head))) | exact Has.tail (Has.tail (Has.tail (Has.tail (Has.tail Has.head)))) | exact Has.tail (Has.tail (Has.tail (Has.tail (Has.tail (Has.tail Has.head)))))) rfl) RW.jn)) ?_
                  refine QuW.cons rfl (fun wq hq => (RW.add rfl rfl rfl (wrap64 (by omega) (by omega)) RW.jn)) ?_
                  refine QuW.cons rfl (fun wq hq => (RW.fieldB fl47x1 rfl rfl RW.jn)) ?_
                  refine QuW.cons rfl (fun wq hq => (RW.load1 sc3 rfl rfl (fun w1 e1 => by subst e1; exact hq.blk_cell (by first | exact Has.head | exact Has.tail Has.head | exact Has.tail (Has.tail Has.head) | exact Has.tail (Has.tail (Has.tail Has.head)) | exact Has.tail (Has.tail (Has.tail (Has.tail Has.head))) | exact Has.tail (Has.tail (Has.tail (Has.tail (Has.tail Has.head)))) | exact Has.tail (Has.tail (Has.tail (Has.tail (Has.tail (Has.tail Has.head)))))) rfl) RW.jn)) ?_
                  refine QuW.cons rfl (fun wq hq => (RW.buildS bu47 rfl rfl rfl RW.jn)) ?_
                  refine QuW.skip ?_
                  refine QuW.skip ?_
                  refine QuW.skip ?_
                  refine QuW.nil ?_
                  refine SpW.soft ?_
                  refine RW.buildSlc sl51 rfl rfl rfl rfl (fun g165 hg165 hf165 => ?_)
                  refine RW.sp1 (fun _ h => by first | exact h | (have h1 := h.rem Rem.head; first | exact h1 | (have h2 := h1.rem Rem.head; first | exact h2 | (have h3 := h2.rem Rem.head; exact h3)))) ?_
                  refine SpW.hard ?_
                  refine RW.append1 sl51 rfl rfl rfl (by first | exact Rem.head | exact Rem.tail Rem.head | exact Rem.tail (Rem.tail Rem.head) | exact Rem.tail (Rem.tail (Rem.tail Rem.head)) | exact Rem.tail (Rem.tail (Rem.tail (Rem.tail Rem.head))) | exact Rem.tail (Rem.tail (Rem.tail (Rem.tail (Rem.tail Rem.head)))) | exact Rem.tail (Rem.tail (Rem.tail (Rem.tail (Rem.tail (Rem.tail Rem.head)))))) (fun _ => by first | exact Upd.head | exact Upd.tail Upd.head | exact Upd.tail (Upd.tail Upd.head) | exact Upd.tail (Upd.tail (Upd.tail Upd.head)) | exact Upd.tail (Upd.tail (Upd.tail (Upd.tail Upd.head))) | exact Upd.tail (Upd.tail (Upd.tail (Upd.tail (Upd.tail Upd.head)))) | exact Upd.tail (Upd.tail (Upd.tail (Upd.tail (Upd.tail (Upd.tail Upd.head)))))) rfl (by repeat (first | exact Ones.nil | exact Enc.ones _ _ | refine Ones.cons rfl ?_)) (by simp only [maxLen]; omega) (by omega) (fun v166 hv166 => ?_)
                  refine RW.assign rfl rfl ?_
                  refine RW.nil (EX.bkN (EX.seq (CW.region ?_)))
                  refine RW.move rfl rfl ?_
                  refine RW.add rfl rfl rfl (wrap64 (by omega) (by omega)) ?_
                  refine RW.assign rfl rfl ?_
                  refine RW.nil ?_
                  -- mq: loopend
                  refine EX.lpN (i + 1, v166) (by dsimp only; omega) (by dsimp only; omega) (by repeat (first | exact Sub.nil | refine Sub.cons (by rfl) ?_)) (fun w' hw' => ?_)
                  dsimp only
                  rw [hsnoc _ hpos]
                  exact (hw'.rem Rem.head).rem Rem.head
        · skip
          have him : i = m := by omega
          subst him
          refine CW.formOwn (v := v15) Has.head (fun A15 c15 hv15 hcap15 hmax15 hlen15 hg15 => ?_)
          subst hv15
          refine CW.exit (EX.seqE (EX.lpE (EX.bkE (EX.seq (CW.seq (CW.region ?_))))))
          refine RW.move rfl rfl ?_
          refine RW.move rfl rfl ?_
          refine RW.assign rfl rfl ?_
          refine RW.assign rfl rfl ?_
          refine RW.nil (EX.seq (CW.ret ?_))
          refine EX.fin2 Try.results28 rfl rfl (fun wz hw => ?_)
          -- mq: done
          have hlist : (l.take i).map (posF rows cols) = l.map (posF rows cols) := by rw [List.take_of_length_le (by omega)]
          rw [hlist] at hw
          obtain ⟨A6, c6, he6, hrd6⟩ := Rd.of_own (E := ERow) (hw.has (Has.tail Has.head)) rfl
          cases he6
          obtain ⟨A7, c7, he7, hrd7⟩ := Rd.of_own (E := EPos) (hw.has Has.head) (by simp; omega)
          cases he7
          have hS1 : ∀ k, (Value.slice A8 rs.length c8).ownBlock = some k → w.heap.size ≤ k := fun k hk => by
            have e1s := e1.size
            rcases Nat.lt_or_ge k wi.heap.size with h | h
            · exact fresh k (hw.cov k (by simp [feet, own, hk]) h)
            · omega
          have hS2 : ∀ k, (Value.slice A15 i c15).ownBlock = some k → w.heap.size ≤ k := fun k hk => by
            have e1s := e1.size
            rcases Nat.lt_or_ge k wi.heap.size with h | h
            · exact fresh k (hw.cov k (by simp [feet, own, hk]) h)
            · omega
          refine ⟨_, _, _, _, _, _, rfl, e1.trans hw.ext (fun x hx hlt => absurd (fresh x hx) (by omega)), ⟨rs, hrd6.weak (fun k hk => hS1 k hk), conts, fun k r row hk hrow => ?_⟩, hrd7.weak (fun k hk => hS2 k hk)⟩
          exact ((nest k r row hk hrow).ext hw.ext (fun k hk => hk.2)).weak (fun k hk => hk.1)
end Go.Proofs.Ytmdmdlfdijdhgaa.Mq
