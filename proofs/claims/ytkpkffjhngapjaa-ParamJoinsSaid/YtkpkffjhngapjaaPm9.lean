/- walks: ParamParses, ParamJoins -/
import Derived.Test.YtkpkffjhngapjaaPm8
namespace Go.Proofs.Ytkpkffjhngapjaa.Mq
open Go Go.RowKit Go.Proofs

theorem IsParse.form {s : List UInt8} {w w' : World} {v : Value} (h : IsParse s w v w') : ∃ A n c, v = .tuple #[.slice A n c, .bool (headB s)] ∧ (headB s = true → RdG w' (fun k => w.heap.size ≤ k) A n c (parseF s)) ∧ (headB s = false → A = none ∧ n = 0 ∧ c = 0) := by
  unfold IsParse at h
  cases hh : headB s with
  | true =>
    rw [if_pos hh] at h
    obtain ⟨A, n, c, rfl, hr⟩ := h
    exact ⟨A, n, c, rfl, fun _ => hr, (fun e => by cases e)⟩
  | false =>
    rw [if_neg (by simp [hh])] at h
    exact ⟨none, 0, 0, h, (fun e => by cases e), fun _ => ⟨rfl, rfl, rfl⟩⟩
theorem parseF_len (s : List UInt8) : (parseF s).length ≤ 32 := by
  rw [parseF, List.length_map]; exact partsL_length _ _ _
theorem groupF_len (p : List UInt8) : (groupF p).length ≤ 8 := by
  rw [groupF, List.length_map]; exact partsL_length _ _ _
theorem parseF_mem (s : List UInt8) : ∀ g ∈ parseF s, g.length ≤ 8 := by
  intro g hg
  obtain ⟨p, _, rfl⟩ := List.mem_map.1 hg
  exact groupF_len p
theorem parses_c (w : World) (s : List UInt8) :
    Calls Try.prog 3 [.string (bs s)].toArray w (fun e w' => e = .returned (.bool true) ∧ Ext [] w w') := by
  have hpl := parseF_len s
  refine calls (n := 32) Try.func3 rfl Try.ntmps3 rfl ?_
  refine CW.sub (H' := SH w [] []) ?_ (Sub.refl _) (fun x hx => SH.start' _ _ hx)
  refine CW.seq (CW.region ?_)
  refine RW.assign rfl rfl ?_
  refine RW.nil (EX.seq (CW.seq (CW.seq (CW.region ?_))))
  refine RW.move rfl rfl ?_
  refine RW.lenS Try.underlying9 rfl rfl ?_
  refine RW.gtr rfl rfl rfl ?_
  refine RW.nil (EX.seq ?_)
  -- mq: cond
  first | refine CW.condD rfl (fun h1 => ?_) (fun h1 => ?_) | refine CW.cond rfl (fun h1 => ?_) (fun h1 => ?_)
  · skip
    refine CW.seq (CW.region ?_)
    refine RW.call rfl ca7 rfl (fun w' _ => awake_c w') ?_
    refine RW.assign rfl rfl ?_
    refine RW.nil (EX.seq (CW.ret (EX.seqR ?_)))
    refine EX.fin1 Try.results3 rfl (fun wz hw => ?_)
    -- mq: done
    exact ⟨rfl, hw.ext⟩
  · skip
    refine CW.skip (EX.seq (CW.seq (CW.region ?_)))
    refine RW.move rfl rfl ?_
    -- mq: op 1: ('Op.call', ('Call.mk', ('Callee.value', ('Operand.func', '8')), ('arr', ('Operand.tmp', '12')), ('arr', '9'))) -> slot 13 ("law.go:33")
    refine RW.callA (R := fun w0 => IsParse s w0) rfl ca8 rfl (fun w' _ => (Parse_c w' s (by omega)).mono (fun e w'' h => h.toA)) ?_
    rintro w0 w1 v hw0 he01 hw1 hlt h
    obtain ⟨A1, n1, c1, rfl, ht1, hf1⟩ := h.form
    have hx0 : Ext [] w w1 := hw0.ext.trans0 he01
    refine RW.move rfl rfl ?_
    refine RW.extract rfl rfl rfl ?_
    refine RW.extract rfl rfl rfl ?_
    refine RW.assign rfl rfl ?_
    refine RW.assign rfl rfl ?_
    refine RW.nil (EX.seq (CW.seq (CW.region ?_)))
    refine RW.move rfl rfl ?_
    -- mq: op 1: ('Op.call', ('Call.mk', ('Callee.value', ('Operand.func', '9')), ('arr', ('Operand.tmp', '17')), ('arr', '9'))) -> slot 18 ("law.go:34")
    refine RW.callA (R := fun w0 => IsParse s w0) rfl ca9 rfl (fun w' _ => (refParse_c w' s (by omega)).mono (fun e w'' h => h.toA)) ?_
    rintro w2 w3 v hw2 he23 hw3 hlt2 h'
    obtain ⟨A2, n2, c2, rfl, ht2, hf2⟩ := h'.form
    have hx2 : Ext [] w1 w3 := (hw2.ext.mono (fun x hx _ => by simp [feet] at hx)).trans0 he23
    have hg1 : RdG w3 (fun _ => True) A1 n1 c1 (if headB s = true then parseF s else []) := by
      cases hh : headB s with
      | true => rw [if_pos rfl]; exact ((ht1 hh).ext hx2 (by simp)).weak (fun _ _ => trivial)
      | false =>
        obtain ⟨rfl, rfl, rfl⟩ := hf1 hh
        rw [if_neg (by simp)]; exact RdG.nil _ _
    have hg2 : RdG w3 (fun _ => True) A2 n2 c2 (if headB s = true then parseF s else []) := by
      cases hh : headB s with
      | true => rw [if_pos rfl]; exact (ht2 hh).weak (fun _ _ => trivial)
      | false =>
        obtain ⟨rfl, rfl, rfl⟩ := hf2 hh
        rw [if_neg (by simp)]; exact RdG.nil _ _
    have hn1 := hg1.len
    have hlen : n1 ≤ 32 := by
      rw [← hn1]
      split
      · exact hpl
      · simp
    refine RW.move rfl rfl ?_
    refine RW.extract rfl rfl rfl ?_
    refine RW.extract rfl rfl rfl ?_
    refine RW.assign rfl rfl ?_
    refine RW.assign rfl rfl ?_
    refine RW.nil (EX.seq (CW.seq (CW.region ?_)))
    refine RW.move rfl rfl ?_
    refine RW.move rfl rfl ?_
    refine RW.eqlB Try.underlying4 rfl rfl rfl ?_
    refine RW.move rfl rfl ?_
    refine RW.guardT rfl rfl (by simp) ?_
    refine RW.move rfl rfl ?_
    refine RW.guardT rfl rfl (by simp) ?_
    refine RW.move rfl rfl ?_
    refine RW.guardT rfl rfl (by simp) ?_
    -- mq: op 6: ('Op.call', ('Call.mk', ('Callee.value', ('Operand.func', '10')), ('arr', ('Operand.tmp', '25'), ('Operand.tmp', '26')), ('arr', '23', '23'))) -> slot 27 ("law.go:35")
    refine RW.call rfl ca10 rfl (fun w' hw' => Same_c w' _ _ _ _ _ _ _ _ _ (hg1.ext hw'.ext (by simp [feet])) (hg2.ext hw'.ext (by simp [feet])) (by omega) (fun g hg => ?_)) ?_
    · split at hg
      · have := parseF_mem s g hg; omega
      · simp at hg
    refine RW.pickB rfl rfl (by simp) rfl ?_
    refine RW.move rfl rfl ?_
    refine RW.guardT rfl rfl rfl ?_
    -- mq: op 9: ('Op.call', ('Call.mk', ('Callee.value', ('Operand.func', '7')), ('arr',), ('arr',))) -> slot 30 ("law.go:35")
    refine RW.call rfl ca7 rfl (fun w' _ => awake_c w') ?_
    refine RW.pickB rfl rfl rfl rfl ?_
    refine RW.assign rfl rfl ?_
    refine RW.nil (EX.seq (CW.ret ?_))
    refine EX.fin1 Try.results3 rfl (fun wz hw => ?_)
    -- mq: done
    exact ⟨rfl, (hx0.trans0 hx2).trans0 (hw.ext.mono (fun x hx _ => by simp [feet] at hx))⟩
/- two heads with ; between -/
theorem headB_join (s t : List UInt8) : headB (s ++ [59] ++ t) = (headB s && headB t) := by
  have : inHead 59 = true := by decide
  simp [headB, List.all_append, this]
theorem fullP_join (s t : List UInt8) : fullP 59 (s ++ 59 :: t) = fullP 59 s ++ fullP 59 t := by
  induction s with
  | nil => simp [fullP]
  | cons c s ih =>
    rw [List.cons_append, fullP, ih]
    conv => rhs; rw [fullP]
    have hne := fullP_ne 59 s
    by_cases hc : c = 59
    · rw [if_pos hc, if_pos hc]; rfl
    · rw [if_neg hc, if_neg hc]
      cases hf : fullP 59 s with
      | nil => exact absurd hf hne
      | cons p ps => rfl
theorem cleanG_group (p : List UInt8) : cleanG (groupF p) = groupF p := by
  have h1 : groupF p ≠ [] := by
    rw [groupF]
    intro e
    have := List.map_eq_nil_iff.1 e
    rw [partsL_full] at this
    have h2 := fullP_ne 58 p
    cases hf : fullP 58 p with
    | nil => exact h2 hf
    | cons a l => rw [hf] at this; simp at this
  rw [cleanG, if_neg h1, List.take_of_length_le (groupF_len p)]
  have : ∀ a ∈ groupF p, cleanN a = a := fun a ha => by
    obtain ⟨q, _, rfl⟩ := List.mem_map.1 ha
    have := valF_range q
    unfold cleanN
    omega
  calc (groupF p).map cleanN = (groupF p).map id := List.map_congr_left this
    _ = groupF p := List.map_id _
theorem joins_law (s t : List UInt8) : parseF (s ++ [59] ++ t) = cleanF (parseF s ++ parseF t) := by
  have hne : parseF s ++ parseF t ≠ [] := by
    have : parseF s ≠ [] := by
      rw [parseF]
      intro e
      have := List.map_eq_nil_iff.1 e
      rw [partsL_full] at this
      have h2 := fullP_ne 59 s
      cases hf : fullP 59 s with
      | nil => exact h2 hf
      | cons a l => rw [hf] at this; simp at this
    intro e
    exact this (List.append_eq_nil_iff.1 e).1
  rw [cleanF, if_neg hne, parseF, parseF, parseF, partsL_full, partsL_full, partsL_full, List.append_assoc, List.singleton_append, fullP_join, ← List.map_append, ← List.map_take, List.map_map]
  have e : (List.take 32 (fullP 59 s) ++ List.take 32 (fullP 59 t)).take 32 = (fullP 59 s ++ fullP 59 t).take 32 := by
    by_cases h : (fullP 59 s).length ≤ 32
    · rw [List.take_of_length_le (l := fullP 59 s) h, List.take_append, List.take_append, List.take_take, Nat.min_eq_left (by omega)]
    · rw [List.take_append_of_le_length (by rw [List.length_take]; omega), List.take_append_of_le_length (by omega), List.take_take, Nat.min_self]
  rw [e]
  exact List.map_congr_left (fun p _ => (cleanG_group p).symm)
theorem RdG.app {w : World} {F G : Nat → Prop} {ss1 ss2 : List SlV} {g1 g2 : List (List Int)} {A : Option Addr} {n c : Nat} (hr : Rd ESl w G A n c (ss1 ++ ss2)) (h1 : ss1.length = g1.length) (h2 : ss2.length = g2.length)
    (n1 : ∀ (k : Nat) (s : SlV) (g : List Int), ss1[k]? = some s → g1[k]? = some g → Rd EInt w F s.A s.n s.c g) (n2 : ∀ (k : Nat) (s : SlV) (g : List Int), ss2[k]? = some s → g2[k]? = some g → Rd EInt w F s.A s.n s.c g) (hF : ∀ k, F k → G k) : RdG w G A n c (g1 ++ g2) := by
  refine ⟨ss1 ++ ss2, hr, by simp [h1, h2], fun k s g hs hg => ?_⟩
  by_cases hk : k < ss1.length
  · rw [List.getElem?_append_left hk] at hs
    rw [List.getElem?_append_left (by omega)] at hg
    exact (n1 k s g hs hg).weak hF
  · rw [List.getElem?_append_right (by omega)] at hs
    rw [List.getElem?_append_right (by omega), ← h1] at hg
    exact (n2 _ s g hs hg).weak hF
theorem run_buildSlice0 {P : Program} {t e sz by_ : Nat} {z : List Value} {w : World} (h : SlT P t e sz by_ z) :
    (Instr.buildSlice t 0 #[]).run P w = .ok (.slice (some ⟨w.heap.size, 0, none⟩) 0 0) (w.alloc (.cells #[] e)) := by
  obtain ⟨i, zv, h1, h2, h3, h4, h5⟩ := h.inf
  unfold Instr.buildSlice
  simp only [Sem.run_bind, run_underlying h.und, Result.andThen_ok, run_sizeOf h1, h4]
  simp [Instr.fill, newRow]
  congr 2
  apply Array.ext <;> simp
theorem RW.buildSl0 {P : Program} {n : Nat} {ops : Array Oper} {Q : Post} {rest : List Oper} {l : Fr} {d : Nat} {ty : TypeId} {pos : String} {af : Array Edge} {t e sz by_ : Nat} {z : List Value} {b : World} {S : List Nat} {cs : List Chunk} (ht : SlT P t e sz by_ z) (hd : Nat.blt d n = true)
    (h : ∀ g, b.heap.size ≤ g → (∀ k ∈ feet cs, k < g) → RW P n ops Q rest ((d, .slice (some ⟨g, 0, none⟩) 0 0) :: l) (SH b S (blk g [] e :: cs))) : RW P n ops Q (⟨some d, .buildSlice t 0 #[], ty, pos, af, none⟩ :: rest) l (SH b S cs) :=
  RW.step hd fun ρ w hρ hw => ⟨.slice (some ⟨w.heap.size, 0, none⟩) 0 0, w.alloc (.cells #[] e), by
    simp [execOp, run_buildSlice0 ht], (h w.heap.size hw.ext.size (fun k hk => hw.lt hk)).at (hw.newblk [] e)⟩
theorem joins_c (w : World) (s t : List UInt8) :
    Calls Try.prog 5 [.string (bs s), .string (bs t)].toArray w (fun e w' => e = .returned (.bool true) ∧ Ext [] w w') := by
  have hps := parseF_len s
  have hpt := parseF_len t
  have hpj := parseF_len (s ++ [59] ++ t)
  refine calls (n := 63) Try.func5 rfl Try.ntmps5 rfl ?_
  refine CW.sub (H' := SH w [] []) ?_ (Sub.refl _) (fun x hx => SH.start' _ _ hx)
  refine CW.seq (CW.region ?_)
  refine RW.assign rfl rfl ?_
  refine RW.nil (EX.seq (CW.seq (CW.seq (CW.region ?_))))
  refine RW.move rfl rfl ?_
  refine RW.lenS Try.underlying9 rfl rfl ?_
  refine RW.gtr rfl rfl rfl ?_
  refine RW.move rfl rfl ?_
  -- mq: guard slot 14
  refine RW.casesB 14 rfl (fun h14 => ?_) (fun h14 => ?_)
  · skip
    have h14p := of_decide_eq_true h14
    refine RW.guardF rfl rfl rfl h14 ?_
    refine RW.guardF rfl rfl rfl h14 ?_
    refine RW.guardF rfl rfl rfl h14 ?_
    refine RW.pickB rfl rfl h14 rfl ?_
    refine RW.nil (EX.seq ?_)
    -- mq: cond
    refine CW.condT rfl (rfl) ?_
    refine CW.seq (CW.region ?_)
    refine RW.call rfl ca7 rfl (fun w' _ => awake_c w') ?_
    refine RW.assign rfl rfl ?_
    refine RW.nil (EX.seq (CW.ret (EX.seqR ?_)))
    refine EX.fin1 Try.results5 rfl (fun wz hw => ?_)
    -- mq: done
    exact ⟨rfl, hw.ext⟩
  · skip
    have h14p := of_decide_eq_false h14
    refine RW.guardT rfl rfl h14 ?_
    refine RW.move rfl rfl ?_
    refine RW.guardT rfl rfl h14 ?_
    refine RW.lenS Try.underlying9 rfl rfl ?_
    refine RW.guardT rfl rfl h14 ?_
    refine RW.gtr rfl rfl rfl ?_
    refine RW.pickC rfl rfl h14 rfl ?_
    refine RW.nil (EX.seq ?_)
    -- mq: cond
    first | refine CW.condD rfl (fun h18 => ?_) (fun h18 => ?_) | refine CW.cond rfl (fun h18 => ?_) (fun h18 => ?_)
    · skip
      refine CW.seq (CW.region ?_)
      refine RW.call rfl ca7 rfl (fun w' _ => awake_c w') ?_
      refine RW.assign rfl rfl ?_
      refine RW.nil (EX.seq (CW.ret (EX.seqR ?_)))
      refine EX.fin1 Try.results5 rfl (fun wz hw => ?_)
      -- mq: done
      exact ⟨rfl, hw.ext⟩
    · skip
      refine CW.skip (EX.seq (CW.seq (CW.region ?_)))
      refine RW.move rfl rfl ?_
      -- mq: op 1: ('Op.call', ('Call.mk', ('Callee.value', ('Operand.func', '8')), ('arr', ('Operand.tmp', '21')), ('arr', '9'))) -> slot 22 ("law.go:100")
      refine RW.callA (R := fun w0 => IsParse s w0) rfl ca8 rfl (fun w' _ => (Parse_c w' s (by omega)).mono (fun e w'' h => h.toA)) ?_
      rintro w0 w1 v hw0 he01 hw1 hlt h
      obtain ⟨A1, n1, c1, rfl, ht1, hf1⟩ := h.form
      have hx0 : Ext [] w w1 := hw0.ext.trans0 he01
      rw [show feet ([] : List Chunk) = [] from rfl]
      refine RW.move rfl rfl ?_
      refine RW.extract rfl rfl rfl ?_
      refine RW.extract rfl rfl rfl ?_
      refine RW.assign rfl rfl ?_
      refine RW.assign rfl rfl ?_
      refine RW.nil (EX.seq (CW.seq (CW.region ?_)))
      refine RW.move rfl rfl ?_
      -- mq: op 1: ('Op.call', ('Call.mk', ('Callee.value', ('Operand.func', '8')), ('arr', ('Operand.tmp', '26')), ('arr', '9'))) -> slot 27 ("law.go:101")
      refine RW.callA (R := fun w0 => IsParse t w0) rfl ca8 rfl (fun w' _ => (Parse_c w' t (by omega)).mono (fun e w'' h => h.toA)) ?_
      rintro w2 w3 v hw2 he23 hw3 hlt2 h'
      obtain ⟨A2, n2, c2, rfl, ht2, hf2⟩ := h'.form
      have hx2 : Ext [] w1 w3 := hw2.ext.trans0 he23
      rw [show feet ([] : List Chunk) = [] from rfl]
      refine RW.move rfl rfl ?_
      refine RW.extract rfl rfl rfl ?_
      refine RW.extract rfl rfl rfl ?_
      refine RW.assign rfl rfl ?_
      refine RW.assign rfl rfl ?_
      refine RW.nil (EX.seq (CW.seq ?_))
      -- mq: region
      refine CW.region ?_
      refine RW.move rfl rfl ?_
      refine RW.catS (t := [59]) rfl rfl rfl (by show ((_ + 1 : Nat) : Int) ≤ _; omega) ?_
      refine RW.move rfl rfl ?_
      refine RW.catS (s := s ++ [59]) rfl rfl rfl (by rw [List.length_append]; show ((_ + 1 + _ : Nat) : Int) ≤ _; omega) ?_
      -- mq: op 4: ('Op.call', ('Call.mk', ('Callee.value', ('Operand.func', '8')), ('arr', ('Operand.tmp', '34')), ('arr', '9'))) -> slot 35 ("law.go:102")
      refine RW.callA (R := fun w0 => IsParse (s ++ [59] ++ t) w0) rfl ca8 rfl (fun w' _ => (Parse_c w' (s ++ [59] ++ t) (by rw [List.length_append, List.length_append]; show _ + 1 + _ ≤ _; omega)).mono (fun e w'' h => h.toA)) ?_
      rintro w4 w5 v hw4 he45 hw5 hlt4 h''
      obtain ⟨A3, n3, c3, rfl, ht3, hf3⟩ := h''.form
      have hx4 : Ext [] w3 w5 := hw4.ext.trans0 he45
      rw [show feet ([] : List Chunk) = [] from rfl]
      rw [headB_join]
      refine RW.move rfl rfl ?_
      refine RW.extract rfl rfl rfl ?_
      refine RW.extract rfl rfl rfl ?_
      refine RW.assign rfl rfl ?_
      refine RW.assign rfl rfl ?_
      refine RW.nil (EX.seq (CW.seq (CW.seq ?_)))
      -- mq: region
      cases hs : headB s with
      | false =>
        have hj : headB (s ++ [59] ++ t) = false := by rw [headB_join, hs]; rfl
        obtain ⟨rfl, rfl, rfl⟩ := hf3 hj
        refine CW.region ?_
        refine RW.move rfl rfl ?_
        refine RW.move rfl rfl ?_
        refine RW.move rfl rfl ?_
        refine RW.guardF rfl rfl rfl rfl ?_
        refine RW.pickC rfl rfl rfl rfl ?_
        refine RW.neqB Try.underlying4 rfl rfl rfl ?_
        refine RW.nil (EX.seq ?_)
        -- mq: cond
        refine CW.condF rfl ((by simp)) ?_
        refine CW.skip (EX.seq (CW.seq (CW.seq (CW.region ?_))))
        refine RW.move rfl rfl ?_
        refine RW.not_ rfl rfl ?_
        refine RW.nil (EX.seq ?_)
        -- mq: cond
        refine CW.condT rfl (rfl) ?_
        refine CW.seq (CW.region ?_)
        refine RW.move rfl rfl ?_
        refine RW.lenSl Try.underlying23 rfl rfl ?_
        refine RW.eqlI rfl rfl rfl ?_
        refine RW.move rfl rfl ?_
        -- mq: guard slot 49
        refine RW.guardT rfl rfl rfl ?_
        -- mq: op 4: ('Op.call', ('Call.mk', ('Callee.value', ('Operand.func', '7')), ('arr',), ('arr',))) -> slot 50 ("law.go:107")
        refine RW.call rfl ca7 rfl (fun w' _ => awake_c w') ?_
        refine RW.pickB rfl rfl rfl rfl ?_
        refine RW.assign rfl rfl ?_
        refine RW.nil (EX.seq (CW.ret (EX.seqR ?_)))
        refine EX.fin1 Try.results5 rfl (fun wz hw => ?_)
        -- mq: done
        exact ⟨rfl, ((hx0.trans0 hx2).trans0 hx4).trans0 hw.ext⟩
      | true =>
        cases ht : headB t with
        | false =>
          have hj : headB (s ++ [59] ++ t) = false := by rw [headB_join, hs, ht]; rfl
          obtain ⟨rfl, rfl, rfl⟩ := hf3 hj
          refine CW.region ?_
          refine RW.move rfl rfl ?_
          refine RW.move rfl rfl ?_
          refine RW.move rfl rfl ?_
          refine RW.guardT rfl rfl rfl ?_
          refine RW.move rfl rfl ?_
          refine RW.pickB rfl rfl rfl rfl ?_
          refine RW.neqB Try.underlying4 rfl rfl rfl ?_
          refine RW.nil (EX.seq ?_)
          -- mq: cond
          refine CW.condF rfl ((by simp)) ?_
          refine CW.skip (EX.seq (CW.seq (CW.seq (CW.region ?_))))
          refine RW.move rfl rfl ?_
          refine RW.not_ rfl rfl ?_
          refine RW.nil (EX.seq ?_)
          -- mq: cond
          refine CW.condT rfl (rfl) ?_
          refine CW.seq (CW.region ?_)
          refine RW.move rfl rfl ?_
          refine RW.lenSl Try.underlying23 rfl rfl ?_
          refine RW.eqlI rfl rfl rfl ?_
          refine RW.move rfl rfl ?_
          -- mq: guard slot 49
          refine RW.guardT rfl rfl rfl ?_
          -- mq: op 4: ('Op.call', ('Call.mk', ('Callee.value', ('Operand.func', '7')), ('arr',), ('arr',))) -> slot 50 ("law.go:107")
          refine RW.call rfl ca7 rfl (fun w' _ => awake_c w') ?_
          refine RW.pickB rfl rfl rfl rfl ?_
          refine RW.assign rfl rfl ?_
          refine RW.nil (EX.seq (CW.ret (EX.seqR ?_)))
          refine EX.fin1 Try.results5 rfl (fun wz hw => ?_)
          -- mq: done
          exact ⟨rfl, ((hx0.trans0 hx2).trans0 hx4).trans0 hw.ext⟩
        | true =>
          have hj : headB (s ++ [59] ++ t) = true := by rw [headB_join, hs, ht]; rfl
          obtain ⟨ss1, q1, q2, q3⟩ := ((ht1 hs).ext hx2 (by simp)).ext hx4 (by simp)
          obtain ⟨ss2, p1, p2, p3⟩ := (ht2 ht).ext hx4 (by simp)
          have hr3 := ht3 hj
          have l1 := q1.len
          have l2 := p1.len
          have l3 := hr3.len
          refine CW.region ?_
          refine RW.move rfl rfl ?_
          refine RW.move rfl rfl ?_
          refine RW.move rfl rfl ?_
          refine RW.guardT rfl rfl rfl ?_
          refine RW.move rfl rfl ?_
          refine RW.pickB rfl rfl rfl rfl ?_
          refine RW.neqB Try.underlying4 rfl rfl rfl ?_
          refine RW.nil (EX.seq ?_)
          -- mq: cond
          refine CW.condF rfl ((by simp)) ?_
          refine CW.skip (EX.seq (CW.seq (CW.seq (CW.region ?_))))
          refine RW.move rfl rfl ?_
          refine RW.not_ rfl rfl ?_
          refine RW.nil (EX.seq ?_)
          -- mq: cond
          refine CW.condF rfl (rfl) ?_
          refine CW.skip (EX.seq (CW.seq (CW.region ?_)))
          refine RW.move rfl rfl ?_
          -- mq: at
          refine RW.buildSl0 sl23 rfl (fun g53 hg53 hf53 => ?_)
          refine RW.move rfl rfl ?_
          -- mq: at
          refine RW.ownBlk (sz := 1) 0 rfl (by first | exact Upd.head | exact Upd.tail Upd.head | exact Upd.tail (Upd.tail Upd.head) | exact Upd.tail (Upd.tail (Upd.tail Upd.head)) | exact Upd.tail (Upd.tail (Upd.tail (Upd.tail Upd.head))) | exact Upd.tail (Upd.tail (Upd.tail (Upd.tail (Upd.tail Upd.head)))) | exact Upd.tail (Upd.tail (Upd.tail (Upd.tail (Upd.tail (Upd.tail Upd.head)))))) rfl (by decide) ?_
          refine RW.appendSl (E := ESl) sl23 rfl rfl rfl (fun _ => by first | exact Upd.head | exact Upd.tail Upd.head | exact Upd.tail (Upd.tail Upd.head) | exact Upd.tail (Upd.tail (Upd.tail Upd.head)) | exact Upd.tail (Upd.tail (Upd.tail (Upd.tail Upd.head))) | exact Upd.tail (Upd.tail (Upd.tail (Upd.tail (Upd.tail Upd.head)))) | exact Upd.tail (Upd.tail (Upd.tail (Upd.tail (Upd.tail (Upd.tail Upd.head)))))) (fun w' hw' => q1.ext hw'.ext (by simp)) (by simp only [maxLen]; omega) (by omega) (fun v55 hv55 => ?_)
          refine RW.move rfl rfl ?_
          -- mq: op 5: ('Op.call', ('Call.mk', ('Callee.builtin', 'Builtin.append'), ('arr', ('Operand.tmp', '55'), ('Operand.tmp', '56')), ('arr', '23', '23'))) -> slot 57 ("law.go:109")
          refine RW.appendSl (E := ESl) sl23 rfl rfl rfl (fun _ => by first | exact Upd.head | exact Upd.tail Upd.head | exact Upd.tail (Upd.tail Upd.head) | exact Upd.tail (Upd.tail (Upd.tail Upd.head)) | exact Upd.tail (Upd.tail (Upd.tail (Upd.tail Upd.head))) | exact Upd.tail (Upd.tail (Upd.tail (Upd.tail (Upd.tail Upd.head)))) | exact Upd.tail (Upd.tail (Upd.tail (Upd.tail (Upd.tail (Upd.tail Upd.head)))))) (fun w' hw' => p1.ext hw'.ext (by simp)) (by simp only [maxLen]; omega) (by omega) (fun v57 hv57 => ?_)
          refine RW.formOwn (v := v57) Has.head (fun A57 c57 hv570 hcap57 hmax57 hlen57 hg57 => ?_)
          subst hv570
          have hnm : 0 + n1 + n2 = n1 + n2 := by omega
          rw [hnm] at *
          have hall : ([] : List Value) ++ ESl.all ss1 ++ ESl.all ss2 = ESl.all (ss1 ++ ss2) := by rw [Enc.all_append]; simp
          rw [hall]
          refine RW.callA (R := fun w0 => IsG (cleanF (parseF s ++ parseF t)) w0) rfl ca12 rfl (fun w' hw' => ?_) ?_
          · obtain ⟨A6, c6, he6, hrd6⟩ := Rd.of_own (E := ESl) (hw'.has Has.head) (by rw [List.length_append]; omega)
            cases he6
            have hG : RdG w' (fun _ => True) A57 (n1 + n2) c57 (parseF s ++ parseF t) := RdG.app (F := fun _ => True) (hrd6.weak (fun _ _ => trivial)) q2 p2 (fun k x g hk hg => ((q3 k x g hk hg).ext hw'.ext (by simp)).weak (fun _ _ => trivial)) (fun k x g hk hg => ((p3 k x g hk hg).ext hw'.ext (by simp)).weak (fun _ _ => trivial)) (fun _ h => h)
            refine (Clean_c w' _ A57 (n1 + n2) c57 _ hG (by omega) (fun g hg => ?_)).mono (fun e w'' h => h.toA)
            rcases List.mem_append.1 hg with h | h
            · have := parseF_mem s g h; omega
            · have := parseF_mem t g h; omega
          rintro w6 w7 v hw6 he67 hw7 hlt6 ⟨A8, n8, c8, rfl, hrd8⟩
          have hr3' := ((ht3 hj).strong.ext hw6.ext (by simp)).ext he67 (by simp)
          rw [joins_law] at hr3'
          -- mq: op 7: ('Op.call', ('Call.mk', ('Callee.value', ('Operand.func', '10')), ('arr', ('Operand.tmp', '52'), ('Operand.tmp', '58')), ('arr', '23', '23'))) -> slot 59 ("law.go:109")
          refine RW.call rfl ca10 rfl (fun w' hw' => Same_c w' (fun _ => True) (fun _ => True) _ _ _ _ _ _ (cleanF (parseF s ++ parseF t)) ((hr3'.ext hw'.ext (fun k hk hk2 => absurd (hw6.cov k hk2 hk.2) (by simp))).weak (fun _ _ => trivial)) ((hrd8.ext hw'.ext (fun k hk hk2 => by have := hlt6 k hk2; omega)).weak (fun _ _ => trivial)) (by omega) (fun g hg => by have := (cleanF_mem _ g hg).2; omega)) ?_
          refine RW.move rfl rfl ?_
          refine RW.guardT rfl rfl rfl ?_
          -- mq: op 9: ('Op.call', ('Call.mk', ('Callee.value', ('Operand.func', '7')), ('arr',), ('arr',))) -> slot 61 ("law.go:109")
          refine RW.call rfl ca7 rfl (fun w' _ => awake_c w') ?_
          refine RW.pickB rfl rfl rfl rfl ?_
          refine RW.assign rfl rfl ?_
          refine RW.nil (EX.seq (CW.ret ?_))
          refine EX.fin1 Try.results5 rfl (fun wz hw => ?_)
          -- mq: done
          refine ⟨rfl, (((((hx0.trans0 hx2).trans0 hx4).trans0 hw6.ext).trans0 he67)).trans hw.ext (fun x hx hlt => absurd (hw6.cov x hx (by have := ((hx0.trans0 hx2).trans0 hx4).size; omega)) (by simp))⟩
end Go.Proofs.Ytkpkffjhngapjaa.Mq
