/- text: the document's Marks, Same, Right -/
import Derived.Test.YtjmmikdbhhomiaaTx7
namespace Go.Proofs.Ytjmmikdbhhomiaa.Mq
open Go Go.RowKit Go.Proofs

section
variable {P : Program} {n : Nat} {c : Code} {Q : Post} {l : Fr} {H : World → Prop}
theorem CW.fix (h : ∀ w1, H w1 → CW P n c Q l (SH w1 [] [])) : CW P n c Q l H := fun w hw => h w hw w (SH.start w)
end
theorem marks_c (w : World) (s : List UInt8) (hs : s.length ≤ 100000) :
    Calls Try.prog 14 [.string (bs s)].toArray w (RetA (fun v _ => IsBool v) w) := by
  refine calls (n := 37) Try.func14 rfl Try.ntmps14 rfl ?_
  refine CW.sub (H' := SH w [] []) ?_ (Sub.refl _) (fun x hx => SH.start' _ _ hx)
  refine CW.seq (CW.region ?_)
  refine RW.assign rfl rfl ?_
  refine RW.nil (EX.seq (CW.seq ?_))
  -- mq: region
  refine CW.region ?_
  refine RW.move rfl rfl ?_
  -- mq: at
  refine RW.strBytes (s := s) Try.underlying9 Try.underlying59 Try.underlying5 rfl rfl (by omega) (fun gb cb hgb hfb hcb1 hcb2 => ?_)
  -- mq: at
  refine RW.callA (R := fun w0 => IsRun s.length w0) rfl ca29 rfl (fun w' hw' => all_c w' _ _ _ _ s (Rd.of_byt (E := EU8) hw' Has.head hcb1 hcb2) (by omega)) (fun w1 w2 v hw1 he12 hw2 hlt2 hv => ?_)
  obtain ⟨A, n, c, L, rfl, hnl, hrd⟩ := hv
  have hx12 := hw1.ext.trans0 he12
  have hl := hrd.len
  have hfe : ∀ k, w1.heap.size ≤ k → k ∉ feet [byt gb 5 (EU8.all s)] := fun k hk hk2 => by have := hlt2 k hk2; omega
  have hcv := hw1.cov
  have hR : ∀ w', Ext (feet [byt gb 5 (EU8.all s)]) w2 w' → Rd EI32 w' (fun k => w1.heap.size ≤ k) A n c L := fun w' h => hrd.ext h hfe
  have hE : ∀ w', Ext (feet [byt gb 5 (EU8.all s)]) w2 w' → Ext [] w w' := fun w' h => hx12.trans h hcv
  refine RW.assign rfl rfl ?_
  refine RW.nil (EX.seq (CW.seq (CW.region ?_)))
  refine RW.assign rfl rfl ?_
  refine RW.nil (EX.seq (CW.seq (CW.seq (CW.region ?_))))
  refine RW.assign rfl rfl ?_
  refine RW.nil (EX.seq (CW.block ?_))
  -- mq: loop
  refine CW.loop (ι := Nat × List UInt8) (fun t => [(0, .string (bs s)), (3, .slice A n c), (4, .string (bs t.2)), (5, .int .i64 (t.1 : Int))]) (fun _ => fun w' => Ext (feet [byt gb 5 (EU8.all s)]) w2 w') (fun t => t.1 ≤ n ∧ t.2.length ≤ 4 * t.1) (fun t => n - t.1) ?_ ?_
  · exact fun w' hw' => ⟨(0, []), ⟨Nat.zero_le _, Nat.le_refl _⟩, (by repeat (first | exact Sub.nil | refine Sub.cons (by rfl) ?_)), hw'.ext⟩
  · rintro ⟨i, B⟩ ⟨hi, hB⟩
    dsimp only at hi hB ⊢
    refine CW.fix (fun w3 hw3 => ?_)
    have hr3 := hR w3 hw3
    refine CW.seq (CW.seq (CW.region ?_))
    refine RW.move rfl rfl ?_
    refine RW.move rfl rfl ?_
    refine RW.lenSl Try.underlying70 rfl rfl ?_
    refine RW.lss rfl rfl rfl ?_
    refine RW.nil (EX.seq ?_)
    -- mq: cond
    first | refine CW.condD rfl (fun hlt => ?_) (fun hlt => ?_) | refine CW.cond rfl (fun hlt => ?_) (fun hlt => ?_)
    · skip
      obtain ⟨r, hr⟩ : ∃ r, L[i]? = some r := ⟨L[i]'(by omega), List.getElem?_eq_getElem _⟩
      obtain ⟨ad, hA, _, hcl⟩ := hr3.at_ hr
      refine CW.skip (EX.seq (CW.seq (CW.block (CW.seq (CW.seq ?_)))))
      -- mq: region
      refine CW.region ?_
      refine RW.move rfl rfl ?_
      refine RW.move rfl rfl ?_
      refine RW.ixAddr (q := i) sl70 rfl rfl rfl (by first | rfl | assumption) (by omega) (by omega) ?_
      refine RW.load1 sc21 rfl rfl (fun w' hw' => hw'.base_cell (hcl 0 _ rfl) (by simp)) ?_
      -- mq: at
      refine RW.callA (R := fun _ v _ => IsInt v) rfl ca13 rfl (fun w' _ => of_c w' r) (fun w4 w5 v hw4 he45 hw5 hlt5 hv => ?_)
      obtain ⟨k, rfl⟩ := hv
      have hx35 : Ext [] w3 w5 := hw4.ext.trans0 he45
      have hr5 := hr3.ext hx35 (by intro k _ hk2; cases hk2)
      obtain ⟨ad5, hA5, _, hcl5⟩ := hr5.at_ hr
      refine RW.neqI rfl rfl rfl ?_
      refine RW.nil (EX.seq ?_)
      -- mq: cond
      first | refine CW.condD rfl (fun h2 => ?_) (fun h2 => ?_) | refine CW.cond rfl (fun h2 => ?_) (fun h2 => ?_)
      · skip
        refine CW.seq (CW.region ?_)
        refine RW.assign rfl rfl ?_
        refine RW.nil (EX.seq (CW.ret (EX.seqR (EX.bkR (EX.seqR (EX.lpR (EX.bkR (EX.seqR ?_))))))))
        refine EX.fin1 Try.results14 rfl (fun wz hw => ?_)
        -- mq: done
        exact ⟨_, rfl, (hE _ (hw3.trans0 hx35)).trans0 hw.ext, _, rfl⟩
      · skip
        refine CW.skip (EX.seq ?_)
        -- mq: region
        refine CW.region ?_
        refine RW.move rfl rfl ?_
        refine RW.move rfl rfl ?_
        refine RW.move rfl rfl ?_
        refine RW.ixAddr (q := i) sl70 rfl rfl rfl (by first | rfl | assumption) (by omega) (by omega) ?_
        refine RW.load1 sc21 rfl rfl (fun w' hw' => hw'.base_cell (hcl5 0 _ rfl) (by simp [feet])) ?_
        -- mq: at
        refine RW.callA (R := fun w0 => IsByt w0) rfl ca30 rfl (fun w' _ => put01_c w' r) (fun w6 w7 v hw6 he67 hw7 hlt7 hv => ?_)
        obtain ⟨A8, n8, c8, l8, rfl, hn8, hrd8⟩ := hv
        have hl8 := hrd8.len
        have hx37 : Ext [] w3 w7 := (hx35.trans0 hw6.ext).trans0 he67
        -- mq: op 6: ('Op.convert', '59', '9', ('Operand.tmp', '26')) -> slot 27 ("ref.go:58")
        refine RW.bytesStr (s := l8) (F := fun k => w6.heap.size ≤ k) Try.underlying59 Try.underlying5 Try.underlying9 rfl rfl (fun w' hw' => hrd8.ext hw'.ext (by intro k _ hk2; cases hk2)) ?_
        refine RW.catS rfl rfl rfl (by first | omega | (simp only [List.length_append, List.length_cons, List.length_nil]; omega)) ?_
        refine RW.assign rfl rfl ?_
        refine RW.nil (EX.bkN (EX.seq (CW.region ?_)))
        refine RW.move rfl rfl ?_
        refine RW.add rfl rfl rfl (wrap64 (by omega) (by omega)) ?_
        refine RW.assign rfl rfl ?_
        refine RW.nil ?_
        -- mq: loopend
        exact EX.lpN (i + 1, B ++ l8) ⟨by dsimp only; omega, by dsimp only; rw [List.length_append]; omega⟩ (by dsimp only; omega) (by repeat (first | exact Sub.nil | refine Sub.cons (by rfl) ?_)) (fun w' hw' => (hw3.trans0 hx37).trans0 hw'.ext)
    · skip
      refine CW.exit (EX.seqE (EX.lpE (EX.bkE (EX.seq (CW.seq (CW.region ?_))))))
      refine RW.move rfl rfl ?_
      refine RW.move rfl rfl ?_
      refine RW.eqlS rfl rfl rfl ?_
      refine RW.move rfl rfl ?_
      -- mq: guard slot 32
      refine RW.casesB 32 rfl (fun h3 => ?_) (fun h3 => ?_)
      · skip
        have h3p := of_decide_eq_true h3
        refine RW.guardT rfl rfl h3 ?_
        refine RW.move rfl rfl ?_
        refine RW.guardT rfl rfl h3 ?_
        refine RW.lenS Try.underlying9 rfl rfl ?_
        refine RW.guardT rfl rfl h3 ?_
        refine RW.leq rfl rfl rfl ?_
        refine RW.pickB rfl rfl h3 rfl ?_
        refine RW.assign rfl rfl ?_
        refine RW.nil (EX.seq (CW.ret ?_))
        refine EX.fin1 Try.results14 rfl (fun wz hw => ?_)
        -- mq: done
        exact ⟨_, rfl, (hE _ hw3).trans0 hw.ext, _, rfl⟩
      · skip
        have h3p := of_decide_eq_false h3
        refine RW.guardF rfl rfl rfl h3 ?_
        refine RW.guardF rfl rfl rfl h3 ?_
        refine RW.guardF rfl rfl rfl h3 ?_
        refine RW.pickC rfl rfl h3 rfl ?_
        refine RW.assign rfl rfl ?_
        refine RW.nil (EX.seq (CW.ret ?_))
        refine EX.fin1 Try.results14 rfl (fun wz hw => ?_)
        -- mq: done
        exact ⟨_, rfl, (hE _ hw3).trans0 hw.ext, _, rfl⟩
theorem Same07_c (w : World) (F1 F2 : Nat → Prop) (A1 A2 : Option Addr) (n1 c1 n2 c2 : Nat) (L1 L2 : List CellV) (h1 : Rd ECell w F1 A1 n1 c1 L1) (h2 : Rd ECell w F2 A2 n2 c2 L2) :
    Calls Try.prog 11 [.slice A1 n1 c1, .slice A2 n2 c2].toArray w (fun e w' => e = .returned (.bool (decide (L1 = L2))) ∧ Ext [] w w') := by
  have hl1 := h1.len
  have hl2 := h2.len
  have hc1 := h1.cap
  have hc2 := h2.cap
  have hm1 := h1.max
  have hm2 := h2.max
  simp only [maxLen] at hm1 hm2
  refine calls (n := 26) Try.func11 rfl Try.ntmps11 rfl ?_
  refine CW.sub (H' := SH w [] []) ?_ (Sub.refl _) (fun x hx => SH.start' _ _ hx)
  refine CW.seq (CW.region ?_)
  refine RW.assign rfl rfl ?_
  refine RW.nil (EX.seq (CW.seq (CW.seq (CW.region ?_))))
  refine RW.move rfl rfl ?_
  refine RW.lenSl Try.underlying29 rfl rfl ?_
  refine RW.move rfl rfl ?_
  refine RW.lenSl Try.underlying29 rfl rfl ?_
  refine RW.neqI rfl rfl rfl ?_
  refine RW.nil (EX.seq ?_)
  -- mq: cond
  first | refine CW.condD rfl (fun h0 => ?_) (fun h0 => ?_) | refine CW.cond rfl (fun h0 => ?_) (fun h0 => ?_)
  · skip
    refine CW.seq (CW.region ?_)
    refine RW.assign rfl rfl ?_
    refine RW.nil (EX.seq (CW.ret (EX.seqR ?_)))
    refine EX.fin1 Try.results11 rfl (fun wz hw => ?_)
    -- mq: done
    exact ⟨by rw [decide_eq_false (fun e => by subst e; omega)], hw.ext⟩
  · skip
    have hll : L1.length = L2.length := by omega
    refine CW.skip (EX.seq (CW.seq (CW.seq (CW.region ?_))))
    refine RW.assign rfl rfl ?_
    refine RW.nil (EX.seq (CW.block ?_))
    -- mq: loop
    refine CW.loop (ι := Nat) (fun i => [(0, .slice A1 n1 c1), (1, .slice A2 n2 c2), (5, .int .i64 (i : Int))]) (fun _ => SH w [] []) (fun i => i ≤ n1 ∧ ∀ j, j < i → L1[j]? = L2[j]?) (fun i => n1 - i) ?_ ?_
    · exact fun w' hw' => ⟨0, ⟨Nat.zero_le _, fun j hj => absurd hj (Nat.not_lt_zero _)⟩, (by repeat (first | exact Sub.nil | refine Sub.cons (by rfl) ?_)), hw'⟩
    · rintro i ⟨hi, hsame⟩
      refine CW.seq (CW.seq (CW.region ?_))
      refine RW.move rfl rfl ?_
      refine RW.move rfl rfl ?_
      refine RW.lenSl Try.underlying29 rfl rfl ?_
      refine RW.lss rfl rfl rfl ?_
      refine RW.nil (EX.seq ?_)
      -- mq: cond
      first | refine CW.condD rfl (fun hlt => ?_) (fun hlt => ?_) | refine CW.cond rfl (fun hlt => ?_) (fun hlt => ?_)
      · skip
        obtain ⟨a, ha⟩ : ∃ a, L1[i]? = some a := ⟨L1[i]'(by omega), List.getElem?_eq_getElem _⟩
        obtain ⟨b, hb⟩ : ∃ b, L2[i]? = some b := ⟨L2[i]'(by omega), List.getElem?_eq_getElem _⟩
        obtain ⟨ad1, hA1, _, hcl1⟩ := h1.at_ ha
        obtain ⟨ad2, hA2, _, hcl2⟩ := h2.at_ hb
        refine CW.skip (EX.seq (CW.seq (CW.block (CW.seq ?_))))
        -- mq: region
        refine CW.drawU [0, 1, 2, 3, 4, 5, 6, 7, 8] 0 [[]] (SH w [] []) mixed (by kernel_rfl) (fun _ hw => hw.drew) (fun _ h => (by first | trivial | exact h | exact h.ch | exact (h.rem Rem.head).ch | exact ((h.rem Rem.head).rem Rem.head).ch | exact (((h.rem Rem.head).rem Rem.head).rem Rem.head).ch)) ?_
        refine QuP.cons rfl (fun wq hq => (RW.move rfl rfl RW.jn)) ?_
        refine QuP.cons rfl (fun wq hq => (RW.move rfl rfl RW.jn)) ?_
        refine QuP.cons rfl (fun wq hq => (RW.ixAddr (q := i) sl29 rfl rfl rfl (by first | rfl | assumption) (by omega) (by omega) RW.jn)) ?_
        refine QuP.cons rfl (fun wq hq => (RW.loadA ag37 rfl rfl (rfl) (fun w1 e1 j u hj => by subst e1; exact (hq.base_cell (hcl1 j u hj) (by simp))) RW.jn)) ?_
        refine QuP.cons rfl (fun wq hq => (RW.move rfl rfl RW.jn)) ?_
        refine QuP.cons rfl (fun wq hq => (RW.move rfl rfl RW.jn)) ?_
        refine QuP.cons rfl (fun wq hq => (RW.ixAddr (q := i) sl29 rfl rfl rfl (by first | rfl | assumption) (by omega) (by omega) RW.jn)) ?_
        refine QuP.cons rfl (fun wq hq => (RW.loadA ag37 rfl rfl (rfl) (fun w1 e1 j u hj => by subst e1; exact (hq.base_cell (hcl2 j u hj) (by simp))) RW.jn)) ?_
        refine QuP.cons rfl (fun wq hq => (RW.neqSt eq37 rfl rfl rfl (by kernel_rfl) (eqv_cell a b) RW.jn)) ?_
        refine QuP.nil ?_
        refine UW.nil (EX.seq ?_)
        -- mq: cond
        first | refine CW.condD rfl (fun hne => ?_) (fun hne => ?_) | refine CW.cond rfl (fun hne => ?_) (fun hne => ?_)
        · skip
          refine CW.seq (CW.region ?_)
          refine RW.assign rfl rfl ?_
          refine RW.nil (EX.seq (CW.ret (EX.bkR (EX.seqR (EX.lpR (EX.bkR (EX.seqR ?_)))))))
          refine EX.fin1 Try.results11 rfl (fun wz hw => ?_)
          -- mq: done
          exact ⟨by rw [decide_eq_false (fun e => by subst e; rw [ha] at hb; rw [decide_eq_true (Option.some.inj hb)] at hne; cases hne)], hw.ext⟩
        · skip
          have hab : a = b := by by_cases h : a = b; exact h; rw [decide_eq_false h] at hne; cases hne
          refine CW.skip (EX.bkN (EX.seq (CW.region ?_)))
          refine RW.move rfl rfl ?_
          refine RW.add rfl rfl rfl (wrap64 (by omega) (by omega)) ?_
          refine RW.assign rfl rfl ?_
          refine RW.nil ?_
          -- mq: loopend
          refine EX.lpN (i + 1) ⟨by omega, fun j hj => ?_⟩ (by omega) (by repeat (first | exact Sub.nil | refine Sub.cons (by rfl) ?_)) (fun w' hw' => hw')
          rcases Nat.lt_succ_iff_lt_or_eq.1 hj with h | rfl
          · exact hsame j h
          · rw [ha, hb, hab]
      · skip
        have hLL : L1 = L2 := List.ext_getElem? fun j => by
          rcases Nat.lt_or_ge j i with h | h
          · exact hsame j h
          · rw [List.getElem?_eq_none (by omega), List.getElem?_eq_none (by omega)]
        refine CW.exit (EX.seqE (EX.lpE (EX.bkE (EX.seq (CW.seq (CW.region ?_))))))
        refine RW.assign rfl rfl ?_
        refine RW.nil (EX.seq (CW.ret ?_))
        refine EX.fin1 Try.results11 rfl (fun wz hw => ?_)
        -- mq: done
        exact ⟨by rw [decide_eq_true hLL], hw.ext⟩
end Go.Proofs.Ytjmmikdbhhomiaa.Mq
