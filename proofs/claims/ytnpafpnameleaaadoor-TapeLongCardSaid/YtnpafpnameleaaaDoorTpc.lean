/- tape: Read, the reference's Same -/
import Derived.Test.YtnpafpnameleaaaDoorTpb
import Derived.Test.YtnpafpnameleaaaDoorCutB
namespace Go.Proofs.YtnpafpnameleaaaDoor.Mq
open Go Go.RowKit Go.Proofs

theorem dropW_lt {s : List UInt8} (h : s ≠ []) : ((s.dropWhile (· ≠ 10)).drop 1).length < s.length := by
  have h1 := (List.dropWhile_sublist (fun x : UInt8 => decide (x ≠ 10)) (l := s)).length_le
  have h2 := List.length_pos_iff.2 h
  rw [List.length_drop]; omega
def readF (n : Nat) (s : List UInt8) : List StV × Nat × Nat :=
  if h : s = [] then ([], 0, 0) else
  if (10 : UInt8) ∈ s then
    if (parseS (s.takeWhile (· ≠ 10))).2 ≠ 0 then ([], n, (parseS (s.takeWhile (· ≠ 10))).2) else
    if (readF (n + 1) ((s.dropWhile (· ≠ 10)).drop 1)).2.2 ≠ 0 then readF (n + 1) ((s.dropWhile (· ≠ 10)).drop 1) else
    ((parseS (s.takeWhile (· ≠ 10))).1 :: (readF (n + 1) ((s.dropWhile (· ≠ 10)).drop 1)).1, 0, 0)
  else ([], n, 4)
termination_by s.length
decreasing_by all_goals exact dropW_lt h
def addF (O : List StV) (q : List StV × Nat × Nat) : List StV × Nat × Nat := if q.2.2 ≠ 0 then q else (O ++ q.1, 0, 0)
theorem readF_nil (n : Nat) : readF n [] = ([], 0, 0) := by rw [readF, dif_pos rfl]
theorem readF_none {n : Nat} {s : List UInt8} (h : s ≠ []) (h1 : (10 : UInt8) ∉ s) : readF n s = ([], n, 4) := by rw [readF, dif_neg h, if_neg h1]
theorem readF_bad {n : Nat} {s : List UInt8} (h1 : (10 : UInt8) ∈ s) (h2 : (parseS (s.takeWhile (· ≠ 10))).2 ≠ 0) : readF n s = ([], n, (parseS (s.takeWhile (· ≠ 10))).2) := by
  rw [readF, dif_neg (List.ne_nil_of_mem h1), if_pos h1, if_pos h2]
theorem addF_step {n : Nat} {s : List UInt8} {O : List StV} (h1 : (10 : UInt8) ∈ s) (h2 : (parseS (s.takeWhile (· ≠ 10))).2 = 0) :
    addF O (readF n s) = addF (O ++ [(parseS (s.takeWhile (· ≠ 10))).1]) (readF (n + 1) ((s.dropWhile (· ≠ 10)).drop 1)) := by
  rw [readF, dif_neg (List.ne_nil_of_mem h1), if_pos h1, if_neg (fun h => h h2)]
  generalize readF (n + 1) ((s.dropWhile (· ≠ 10)).drop 1) = q
  by_cases h3 : q.2.2 = 0
  · rw [if_neg (fun h => h h3)]
    unfold addF
    rw [if_neg (fun h => h rfl), if_neg (fun h => h h3)]
    simp
  · rw [if_pos h3]
    unfold addF
    rw [if_pos h3, if_pos h3]
theorem addF_err {O : List StV} {n e : Nat} (h : e ≠ 0) : addF O ([], n, e) = ([], n, e) := if_pos h
theorem addF_ok (O : List StV) : addF O ([], 0, 0) = (O, 0, 0) := by rw [addF, if_neg (fun h => h rfl), List.append_nil]
theorem readF_zero : ∀ (m n : Nat) (s : List UInt8), s.length ≤ m → (readF n s).2.2 = 0 → (readF n s).2.1 = 0
  | m, n, s, hm, h => by
    by_cases h0 : s = []
    · rw [h0, readF_nil]
    · by_cases h1 : (10 : UInt8) ∈ s
      · by_cases h2 : (parseS (s.takeWhile (· ≠ 10))).2 = 0
        · have hlt := dropW_lt h0
          cases m with
          | zero => exact absurd (List.length_eq_zero_iff.1 (by omega)) h0
          | succ m =>
            have ih := readF_zero m (n + 1) ((s.dropWhile (· ≠ 10)).drop 1) (by omega)
            rw [readF, dif_neg h0, if_pos h1, if_neg (fun h => h h2)] at h ⊢
            by_cases h3 : (readF (n + 1) ((s.dropWhile (· ≠ 10)).drop 1)).2.2 = 0
            · rw [if_neg (fun h => h h3)]
            · rw [if_pos h3] at h; exact absurd h h3
        · rw [readF_bad h1 h2] at h; exact absurd h h2
      · rw [readF_none h0 h1] at h; cases h
theorem addF_start (n : Nat) (s : List UInt8) : readF n s = addF [] (readF n s) := by
  unfold addF
  by_cases h : (readF n s).2.2 = 0
  · rw [if_neg (fun e => e h), List.nil_append]
    have h2 := readF_zero _ n s (Nat.le_refl _) h
    generalize readF n s = q at h h2 ⊢
    obtain ⟨a, b, c⟩ := q
    dsimp only at h h2
    rw [h, h2]
  · rw [if_pos h]
def IsRead (r : List StV × Nat × Nat) (w0 : World) (v : Value) (w1 : World) : Prop := ∃ A m c, v = .tuple #[.slice A m c, .int .i64 (r.2.1 : Int), .int .i64 (r.2.2 : Int)] ∧ Rd ESt w1 (fun k => w0.heap.size ≤ k) A m c r.1
theorem Rd.nilSl {α : Type} (E : Enc α) (w : World) (F : Nat → Prop) : Rd E w F none 0 0 [] := ⟨rfl, Nat.le_refl _, Nat.zero_le _, fun h => absurd h (by decide)⟩
theorem Read_c (w : World) (hg : GT w) (s : List UInt8) (hs : s.length ≤ 1000000) :
    Calls Tryd.prog 13 [.string (bs s)].toArray w (RetA (IsRead (readF 1 s) w) w) := by
  refine calls (n := 43) Tryd.func13 rfl Tryd.ntmps13 rfl ?_
  refine CW.sub (H' := SH w [] []) ?_ (Sub.refl _) (fun x hx => SH.start' _ _ hx)
  refine CW.seq (CW.region ?_)
  refine RW.assign rfl rfl ?_
  refine RW.assign rfl rfl ?_
  refine RW.assign rfl rfl ?_
  refine RW.nil (EX.seq (CW.seq (CW.seq (CW.region ?_))))
  refine RW.move rfl rfl ?_
  refine RW.lenS Tryd.underlying9 rfl rfl ?_
  refine RW.gtr rfl rfl rfl ?_
  refine RW.nil (EX.seq ?_)
  -- mq: cond
  refine CW.condF rfl ((decide_eq_false (by omega))) ?_
  refine CW.skip (EX.seq (CW.seq (CW.region ?_)))
  refine RW.assign rfl rfl ?_
  refine RW.nil (EX.seq (CW.seq (CW.seq ?_)))
  -- mq: region
  refine CW.ownNil 23 4 ?_
  refine CW.region ?_
  refine RW.assign rfl rfl ?_
  refine RW.nil (EX.seq (CW.block ?_))
  -- mq: loop
  refine CW.loop (ι := Value × List StV × Nat × List UInt8) (fun t => [(0, .string (bs t.2.2.2)), (5, t.1), (6, .int .i64 (t.2.2.1 : Int))]) (fun t => SH w [] [own 23 4 t.1 t.2.1.length (ESt.all t.2.1)]) (fun t => t.2.1.length + t.2.2.2.length ≤ 1000000 ∧ t.2.2.1 ≤ t.2.1.length + 1 ∧ readF 1 s = addF t.2.1 (readF t.2.2.1 t.2.2.2)) (fun t => t.2.2.2.length) ?_ ?_
  · exact fun w' hw' => ⟨(_, [], 1, s), ⟨by simpa using hs, Nat.le_refl _, addF_start 1 s⟩, (by repeat (first | exact Sub.nil | refine Sub.cons (by rfl) ?_)), hw'⟩
  · rintro ⟨v, O, n, t⟩ ⟨hOt, hnO, hsp⟩
    dsimp only at hOt hnO hsp ⊢
    refine CW.seq (CW.seq (CW.region ?_))
    refine RW.move rfl rfl ?_
    refine RW.neqS rfl rfl rfl ?_
    refine RW.nil (EX.seq ?_)
    -- mq: cond
    first | refine CW.condD rfl (fun h1 => ?_) (fun h1 => ?_) | refine CW.cond rfl (fun h1 => ?_) (fun h1 => ?_)
    · skip
      have htne : t ≠ [] := h1
      refine CW.skip (EX.seq (CW.seq (CW.block (CW.seq ?_))))
      -- mq: region
      by_cases h10 : (10 : UInt8) ∈ t
      · skip
        have hlt1 : (t.takeWhile (· ≠ 10)).length ≤ t.length := (List.takeWhile_sublist _).length_le
        have hlt2 := dropW_lt htne
        refine CW.region ?_
        refine RW.move rfl rfl ?_
        refine RW.call (v := .tuple #[.string (bs (t.takeWhile (· ≠ 10))), .string (bs ((t.dropWhile (· ≠ 10)).drop 1)), .bool true]) rfl ca31 rfl (fun w' _ => by have h := Cut_c w' t 10 (by omega); rw [cutV, if_pos h10] at h; exact h) ?_
        refine RW.move rfl rfl ?_
        refine RW.extract rfl rfl rfl ?_
        refine RW.extract rfl rfl rfl ?_
        refine RW.extract rfl rfl rfl ?_
        refine RW.assign rfl rfl ?_
        refine RW.assign rfl rfl ?_
        refine RW.assign rfl rfl ?_
        refine RW.nil (EX.seq (CW.seq (CW.seq (CW.region ?_))))
        refine RW.move rfl rfl ?_
        refine RW.not_ rfl rfl ?_
        refine RW.nil (EX.seq ?_)
        -- mq: cond
        refine CW.condF rfl (rfl) ?_
        refine CW.skip (EX.seq (CW.seq (CW.region ?_)))
        refine RW.move rfl rfl ?_
        refine RW.call rfl ca11 rfl (fun w' hw' => Parse_c w' (hg.ext hw'.ext).l (hg.ext hw'.ext).e (hg.ext hw'.ext).m _ (by omega)) ?_
        refine RW.move rfl rfl ?_
        refine RW.extract rfl rfl rfl ?_
        refine RW.extract rfl rfl rfl ?_
        refine RW.allocA ag23 rfl (fun g10 hg10 hf10 => ?_)
        refine RW.storeA ag23 rfl rfl (by first | exact Upd.head | exact Upd.tail Upd.head | exact Upd.tail (Upd.tail Upd.head) | exact Upd.tail (Upd.tail (Upd.tail Upd.head)) | exact Upd.tail (Upd.tail (Upd.tail (Upd.tail Upd.head))) | exact Upd.tail (Upd.tail (Upd.tail (Upd.tail (Upd.tail Upd.head)))) | exact Upd.tail (Upd.tail (Upd.tail (Upd.tail (Upd.tail (Upd.tail Upd.head)))))) (by first | rfl | exact Enc.len _ _) (by repeat (first | exact Ones.nil | exact Enc.ones _ _ | refine Ones.cons rfl ?_)) (by first | exact Nat.le_of_ble_eq_true rfl | (simp only [Enc.len]; decide)) ?_
        refine RW.assign rfl rfl ?_
        refine RW.nil (EX.seq (CW.seq (CW.seq (CW.region ?_))))
        refine RW.move rfl rfl ?_
        refine RW.neqI rfl rfl rfl ?_
        refine RW.nil (EX.seq ?_)
        -- mq: cond
        first | refine CW.condD rfl (fun h2 => ?_) (fun h2 => ?_) | refine CW.cond rfl (fun h2 => ?_) (fun h2 => ?_)
        · skip
          have hbad := readF_bad (n := n) h10 (by omega)
          refine CW.seq (CW.region ?_)
          refine RW.move rfl rfl ?_
          refine RW.move rfl rfl ?_
          refine RW.assign rfl rfl ?_
          refine RW.assign rfl rfl ?_
          refine RW.assign rfl rfl ?_
          refine RW.nil (EX.seq (CW.ret (EX.seqR (EX.bkR (EX.seqR (EX.lpR (EX.bkR (EX.seqR ?_))))))))
          refine EX.fin3 Tryd.results13 rfl rfl rfl (fun wz hw => ?_)
          -- mq: done
          refine ⟨_, rfl, hw.ext, ?_⟩
          rw [hsp, hbad, addF_err (by omega)]
          exact ⟨none, 0, 0, rfl, Rd.nilSl _ _ _⟩
        · skip
          have hst := addF_step (n := n) (O := O) h10 (by omega)
          refine CW.skip (EX.seq (CW.seq (CW.region ?_)))
          refine RW.move rfl rfl ?_
          refine RW.loadBA ag23 rfl rfl (by first | exact Has.head | exact Has.tail Has.head | exact Has.tail (Has.tail Has.head) | exact Has.tail (Has.tail (Has.tail Has.head)) | exact Has.tail (Has.tail (Has.tail (Has.tail Has.head))) | exact Has.tail (Has.tail (Has.tail (Has.tail (Has.tail Has.head)))) | exact Has.tail (Has.tail (Has.tail (Has.tail (Has.tail (Has.tail Has.head)))))) rfl rfl ?_
          refine RW.buildSlc sl36 rfl rfl rfl rfl (fun g39 hg39 hf39 => ?_)
          refine RW.append1 sl36 rfl rfl rfl (by first | exact Rem.head | exact Rem.tail Rem.head | exact Rem.tail (Rem.tail Rem.head) | exact Rem.tail (Rem.tail (Rem.tail Rem.head)) | exact Rem.tail (Rem.tail (Rem.tail (Rem.tail Rem.head))) | exact Rem.tail (Rem.tail (Rem.tail (Rem.tail (Rem.tail Rem.head)))) | exact Rem.tail (Rem.tail (Rem.tail (Rem.tail (Rem.tail (Rem.tail Rem.head)))))) (fun _ => by first | exact Upd.head | exact Upd.tail Upd.head | exact Upd.tail (Upd.tail Upd.head) | exact Upd.tail (Upd.tail (Upd.tail Upd.head)) | exact Upd.tail (Upd.tail (Upd.tail (Upd.tail Upd.head))) | exact Upd.tail (Upd.tail (Upd.tail (Upd.tail (Upd.tail Upd.head)))) | exact Upd.tail (Upd.tail (Upd.tail (Upd.tail (Upd.tail (Upd.tail Upd.head)))))) rfl (by repeat (first | exact Ones.nil | exact Enc.ones _ _ | refine Ones.cons rfl ?_)) (by simp only [maxLen]; omega) (by omega) (fun v40 hv40 => ?_)
          refine RW.assign rfl rfl ?_
          refine RW.nil (EX.seq (CW.region ?_))
          refine RW.move rfl rfl ?_
          refine RW.assign rfl rfl ?_
          refine RW.nil (EX.bkN (EX.seq (CW.region ?_)))
          refine RW.move rfl rfl ?_
          refine RW.add rfl rfl rfl (wrap64 (by omega) (by omega)) ?_
          refine RW.assign rfl rfl ?_
          refine RW.nil ?_
          -- mq: loopend
          refine EX.lpN (v40, O ++ [(parseS (t.takeWhile (· ≠ 10))).1], n + 1, (t.dropWhile (· ≠ 10)).drop 1) ⟨by dsimp only; simp only [List.length_append, List.length_cons, List.length_nil]; omega, by dsimp only; simp; omega, by rw [hsp, hst]⟩ hlt2 (by repeat (first | exact Sub.nil | refine Sub.cons (by rfl) ?_)) (fun w' hw' => ?_)
          dsimp only
          rw [Enc.all_snoc ESt, List.length_append]
          exact hw'.rem Rem.head
      · skip
        refine CW.region ?_
        refine RW.move rfl rfl ?_
        refine RW.call (v := .tuple #[.string (bs t), .string (bs []), .bool false]) rfl ca31 rfl (fun w' _ => by have h := Cut_c w' t 10 (by omega); rw [cutV, if_neg h10] at h; exact h) ?_
        refine RW.move rfl rfl ?_
        refine RW.extract rfl rfl rfl ?_
        refine RW.extract rfl rfl rfl ?_
        refine RW.extract rfl rfl rfl ?_
        refine RW.assign rfl rfl ?_
        refine RW.assign rfl rfl ?_
        refine RW.assign rfl rfl ?_
        refine RW.nil (EX.seq (CW.seq (CW.seq (CW.region ?_))))
        refine RW.move rfl rfl ?_
        refine RW.not_ rfl rfl ?_
        refine RW.nil (EX.seq ?_)
        -- mq: cond
        refine CW.condT rfl (rfl) ?_
        refine CW.seq (CW.region ?_)
        refine RW.move rfl rfl ?_
        refine RW.assign rfl rfl ?_
        refine RW.assign rfl rfl ?_
        refine RW.assign rfl rfl ?_
        refine RW.nil (EX.seq (CW.ret (EX.seqR (EX.bkR (EX.seqR (EX.lpR (EX.bkR (EX.seqR ?_))))))))
        refine EX.fin3 Tryd.results13 rfl rfl rfl (fun wz hw => ?_)
        -- mq: done
        refine ⟨_, rfl, hw.ext, ?_⟩
        rw [hsp, readF_none htne h10, addF_err (by decide)]
        exact ⟨none, 0, 0, rfl, Rd.nilSl _ _ _⟩
    · skip
      obtain rfl : t = [] := Decidable.not_not.1 h1
      rw [readF_nil, addF_ok] at hsp
      refine CW.exit (EX.seqE (EX.lpE (EX.bkE (EX.seq (CW.seq (CW.region ?_))))))
      refine RW.move rfl rfl ?_
      refine RW.assign rfl rfl ?_
      refine RW.assign rfl rfl ?_
      refine RW.assign rfl rfl ?_
      refine RW.nil (EX.seq (CW.ret ?_))
      refine EX.fin3 Tryd.results13 rfl rfl rfl (fun wz hw => ?_)
      -- mq: done
      have hcv := hw.cov
      obtain ⟨A, c, hv, hrd⟩ := Rd.of_own (E := ESt) (hw.has Has.head) rfl
      refine ⟨_, rfl, hw.ext, ?_⟩
      rw [hsp]
      subst hv
      exact ⟨A, O.length, c, rfl, hrd.weak fun k hk => Nat.le_of_not_lt fun hlt => by have := hcv k (by simp [feet, own, hk]) hlt; simp at this⟩
theorem Same_c (w : World) (F1 F2 : Nat → Prop) (A1 A2 : Option Addr) (n1 c1 n2 c2 : Nat) (L1 L2 : List StV) (h1 : Rd ESt w F1 A1 n1 c1 L1) (h2 : Rd ESt w F2 A2 n2 c2 L2) :
    Calls Tryd.prog 14 [.slice A1 n1 c1, .slice A2 n2 c2].toArray w (fun e w' => e = .returned (.bool (decide (L1 = L2))) ∧ Ext [] w w') := by
  have hl1 := h1.len
  have hl2 := h2.len
  have hc1 := h1.cap
  have hc2 := h2.cap
  have hm1 := h1.max
  have hm2 := h2.max
  simp only [maxLen] at hm1 hm2
  refine calls (n := 26) Tryd.func14 rfl Tryd.ntmps14 rfl ?_
  refine CW.sub (H' := SH w [] []) ?_ (Sub.refl _) (fun x hx => SH.start' _ _ hx)
  refine CW.seq (CW.region ?_)
  refine RW.assign rfl rfl ?_
  refine RW.nil (EX.seq (CW.seq (CW.seq (CW.region ?_))))
  refine RW.move rfl rfl ?_
  refine RW.lenSl Tryd.underlying36 rfl rfl ?_
  refine RW.move rfl rfl ?_
  refine RW.lenSl Tryd.underlying36 rfl rfl ?_
  refine RW.neqI rfl rfl rfl ?_
  refine RW.nil (EX.seq ?_)
  -- mq: cond
  first | refine CW.condD rfl (fun h0 => ?_) (fun h0 => ?_) | refine CW.cond rfl (fun h0 => ?_) (fun h0 => ?_)
  · skip
    refine CW.seq (CW.region ?_)
    refine RW.assign rfl rfl ?_
    refine RW.nil (EX.seq (CW.ret (EX.seqR ?_)))
    refine EX.fin1 Tryd.results14 rfl (fun wz hw => ?_)
    -- mq: done
    exact ⟨by rw [decide_eq_false (fun e => by subst e; omega)], hw.ext⟩
  · skip
    have hll : L1.length = L2.length := by omega
    refine CW.skip (EX.seq (CW.seq (CW.seq (CW.region ?_))))
    refine RW.assign rfl rfl ?_
    refine RW.nil (EX.seq (CW.block ?_))
    -- mq: loop
    refine CW.loop (ι := Nat) (fun i => [(0, .slice A1 n1 c1), (1, .slice A2 n2 c2), (5, .int .i64 (i : Int))]) (fun _ => SH w [] []) (fun i => i ≤ n1 ∧ ∀ j, j < i → L1[j]? = L2[j]?) (fun i => n1 - i) ?_ ?_
    · exact fun w' hw' => ⟨0, ⟨Nat.zero_le _, fun j hj => absurd hj (Nat.not_lt_zero _)⟩, (by repeat (first | exact Sub.nil | refine Sub.cons (by rfl) ?_)), hw'⟩
    · rintro i ⟨hi, hsame⟩
      refine CW.seq (CW.seq (CW.region ?_))
      refine RW.move rfl rfl ?_
      refine RW.move rfl rfl ?_
      refine RW.lenSl Tryd.underlying36 rfl rfl ?_
      refine RW.lss rfl rfl rfl ?_
      refine RW.nil (EX.seq ?_)
      -- mq: cond
      first | refine CW.condD rfl (fun hlt => ?_) (fun hlt => ?_) | refine CW.cond rfl (fun hlt => ?_) (fun hlt => ?_)
      · skip
        obtain ⟨a, ha⟩ : ∃ a, L1[i]? = some a := ⟨L1[i]'(by omega), List.getElem?_eq_getElem _⟩
        obtain ⟨b, hb⟩ : ∃ b, L2[i]? = some b := ⟨L2[i]'(by omega), List.getElem?_eq_getElem _⟩
        obtain ⟨ad1, hA1, _, hcl1⟩ := h1.at_ ha
        obtain ⟨ad2, hA2, _, hcl2⟩ := h2.at_ hb
        refine CW.skip (EX.seq (CW.seq (CW.block (CW.seq ?_))))
        -- mq: region
        refine CW.drawU [0, 1, 2, 3, 4, 5, 6, 7, 8] 0 [[]] (SH w [] []) mixed (by kernel_rfl) (fun _ hw => hw.drew) (fun _ h => (by first | trivial | exact h | exact h.ch | exact (h.rem Rem.head).ch | exact ((h.rem Rem.head).rem Rem.head).ch | exact (((h.rem Rem.head).rem Rem.head).rem Rem.head).ch)) ?_
        refine QuP.cons rfl (fun wq hq => (RW.move rfl rfl RW.jn)) ?_
        refine QuP.cons rfl (fun wq hq => (RW.move rfl rfl RW.jn)) ?_
        refine QuP.cons rfl (fun wq hq => (RW.ixAddr (q := i) sl36 rfl rfl rfl (by first | rfl | assumption) (by omega) (by omega) RW.jn)) ?_
        refine QuP.cons rfl (fun wq hq => (RW.loadA ag23 rfl rfl (rfl) (fun w1 e1 j u hj => by subst e1; exact (hq.base_cell (hcl1 j u hj) (by simp))) RW.jn)) ?_
        refine QuP.cons rfl (fun wq hq => (RW.move rfl rfl RW.jn)) ?_
        refine QuP.cons rfl (fun wq hq => (RW.move rfl rfl RW.jn)) ?_
        refine QuP.cons rfl (fun wq hq => (RW.ixAddr (q := i) sl36 rfl rfl rfl (by first | rfl | assumption) (by omega) (by omega) RW.jn)) ?_
        refine QuP.cons rfl (fun wq hq => (RW.loadA ag23 rfl rfl (rfl) (fun w1 e1 j u hj => by subst e1; exact (hq.base_cell (hcl2 j u hj) (by simp))) RW.jn)) ?_
        refine QuP.cons rfl (fun wq hq => (RW.neqSt eq23 rfl rfl rfl (by kernel_rfl) (heqS a b) RW.jn)) ?_
        refine QuP.nil ?_
        refine UW.nil (EX.seq ?_)
        -- mq: cond
        first | refine CW.condD rfl (fun hne => ?_) (fun hne => ?_) | refine CW.cond rfl (fun hne => ?_) (fun hne => ?_)
        · skip
          refine CW.seq (CW.region ?_)
          refine RW.assign rfl rfl ?_
          refine RW.nil (EX.seq (CW.ret (EX.bkR (EX.seqR (EX.lpR (EX.bkR (EX.seqR ?_)))))))
          refine EX.fin1 Tryd.results14 rfl (fun wz hw => ?_)
          -- mq: done
          exact ⟨by rw [decide_eq_false (fun e => by subst e; rw [ha] at hb; rw [decide_eq_true (Option.some.inj hb)] at hne; cases hne)], hw.ext⟩
        · skip
          have hab : a = b := by by_cases h : a = b; exact h; rw [decide_eq_false h] at hne; cases hne
          refine CW.skip (EX.bkN (EX.seq (CW.region ?_)))
          refine RW.move rfl rfl ?_
          refine RW.add rfl rfl rfl (wrap64 (by omega) (by omega)) ?_
          refine RW.assign rfl rfl ?_
          refine RW.nil ?_
          -- mq: loopend
          refine EX.lpN (i + 1) ⟨by omega, fun j hj => ?_⟩ (by omega) (by repeat (first | exact Sub.nil | refine Sub.cons (by rfl) ?_)) (fun w' hw' => hw')
          rcases Nat.lt_succ_iff_lt_or_eq.1 hj with h | rfl
          · exact hsame j h
          · rw [ha, hb, hab]
      · skip
        have hLL : L1 = L2 := List.ext_getElem? fun j => by
          rcases Nat.lt_or_ge j i with h | h
          · exact hsame j h
          · rw [List.getElem?_eq_none (by omega), List.getElem?_eq_none (by omega)]
        refine CW.exit (EX.seqE (EX.lpE (EX.bkE (EX.seq (CW.seq (CW.region ?_))))))
        refine RW.assign rfl rfl ?_
        refine RW.nil (EX.seq (CW.ret ?_))
        refine EX.fin1 Tryd.results14 rfl (fun wz hw => ?_)
        -- mq: done
        exact ⟨by rw [decide_eq_true hLL], hw.ext⟩
end Go.Proofs.YtnpafpnameleaaaDoor.Mq
