/- reply: walks of Read, and the reference's Read -/
import Derived.Test.YtjplfonmdjnplaaDoorRpW
import Derived.Test.YtjplfonmdjnplaaDoorCut
namespace Go.Proofs.YtjplfonmdjnplaaDoor.Mq
open Go Go.RowKit Go.Proofs

def stripF : List UInt8 → List UInt8
  | [] => []
  | c :: t => if 60 ≤ c.toNat ∧ c.toNat ≤ 63 then t else c :: t
theorem stripF_len (h : List UInt8) : (stripF h).length ≤ h.length := by
  cases h with
  | nil => exact Nat.le_refl _
  | cons c t =>
    show (if 60 ≤ c.toNat ∧ c.toNat ≤ 63 then t else c :: t).length ≤ _
    split <;> simp
def okF (h : List UInt8) (c : UInt8) : Bool := headB (stripF h) && decide ((stripF h).length ≤ 256) && decide (64 ≤ c.toNat ∧ c.toNat ≤ 126)
/-- what Read hands back of a text of the form -/
def IsRd (e0 e1 : Value) (h : List UInt8) (c : UInt8) (w : World) (v : Value) (w' : World) : Prop :=
  if okF h c = true then ∃ A n k, v = .tuple #[.int .u8 (c.toNat : Int), .slice A n k, e0] ∧ RdG w' (fun k => w.heap.size ≤ k) A n k (parseF (stripF h))
  else v = .tuple #[.int .u8 0, .slice none 0 0, e1]
theorem form_cases (s : List UInt8) : (∃ h c, s = 27 :: 91 :: (h ++ [c])) ∨ ¬ (s.take 2 = [27, 91] ∧ 3 ≤ s.length) := by
  by_cases hf : s.take 2 = [27, 91] ∧ 3 ≤ s.length
  · left
    match s, hf with
    | [], ⟨h1, _⟩ => simp at h1
    | [_], ⟨h1, _⟩ => simp at h1
    | [_, _], ⟨_, h2⟩ => simp at h2
    | a :: b :: x :: t, ⟨h1, _⟩ =>
      simp only [List.take_succ_cons, List.take_zero, List.cons.injEq, and_true] at h1
      obtain ⟨rfl, rfl⟩ := h1
      exact ⟨(x :: t).dropLast, (x :: t).getLast (by simp), by rw [List.dropLast_concat_getLast]⟩
  · exact .inr hf
theorem parse_form {w w' : World} {s : List UInt8} {e : Ending} (h : parseR w s e w') : RetA (fun v w' => ∃ A n c, v = .tuple #[.slice A n c, .bool (headB s)] ∧ (headB s = true → RdG w' (fun k => w.heap.size ≤ k) A n c (parseF s))) w e w' := by
  unfold parseR at h
  split at h
  · rename_i h1
    obtain ⟨A, n, c, rfl, hx, hr⟩ := h
    exact ⟨_, rfl, hx, A, n, c, by rw [h1], fun _ => hr⟩
  · rename_i h1
    obtain ⟨rfl, hx⟩ := h
    have h1 : headB s = false := by simpa using h1
    exact ⟨_, rfl, hx, none, 0, 0, by rw [h1], fun h => by rw [h1] at h; cases h⟩
theorem read_bad (w : World) (s : List UInt8) (hs : s.length ≤ 1000000) (hf : ¬ (s.take 2 = [27, 91] ∧ 3 ≤ s.length)) : Calls Tryd.prog 15 [.string (bs s)].toArray w (fun e w' => e = .returned (.tuple #[.int .u8 0, .slice none 0 0, .int .i64 4]) ∧ Ext [] w w') := by
  refine calls (n := 67) Tryd.func15 rfl Tryd.ntmps15 rfl ?_
  refine CW.sub (H' := SH w [] []) ?_ (Sub.refl _) (fun x hx => SH.start' _ _ hx)
  refine CW.seq (CW.region ?_)
  refine RW.assign rfl rfl ?_
  refine RW.assign rfl rfl ?_
  refine RW.assign rfl rfl ?_
  refine RW.nil (EX.seq (CW.seq (CW.region ?_)))
  refine RW.move rfl rfl ?_
  -- mq: op 1: ('Op.call', ('Call.mk', ('Callee.value', ('Operand.func', '28')), ('arr', ('Operand.tmp', '11'), ('Operand.const', ('Value.string', ('ByteArray.mk', ('arr', '27', '91'))))), ('arr', '9', '9'))) -> slot 12 ("reply.go:70")
  refine RW.call rfl ca28 rfl (fun w' _ => cutPrefix_c w' s [27, 91] (by omega) (by decide)) ?_
  by_cases h2 : s.take 2 = [27, 91]
  · skip
    have hl : s.length ≤ 2 := by
      rcases Nat.lt_or_ge 2 s.length with h | h
      · exact absurd ⟨h2, h⟩ hf
      · exact h
    have hd : s.drop 2 = [] := List.drop_eq_nil_of_le hl
    rw [show ([27, 91] : List UInt8).length = 2 from rfl, if_pos h2, decide_eq_true h2, hd]
    refine RW.move rfl rfl ?_
    refine RW.extract rfl rfl rfl ?_
    refine RW.extract rfl rfl rfl ?_
    refine RW.assign rfl rfl ?_
    refine RW.assign rfl rfl ?_
    refine RW.nil (EX.seq (CW.seq (CW.seq (CW.region ?_))))
    refine RW.move rfl rfl ?_
    refine RW.not_ rfl rfl ?_
    refine RW.move rfl rfl ?_
    refine RW.guardT rfl rfl rfl ?_
    refine RW.move rfl rfl ?_
    refine RW.guardT rfl rfl rfl ?_
    refine RW.eqlS rfl rfl rfl ?_
    refine RW.pickC rfl rfl rfl rfl ?_
    refine RW.nil (EX.seq ?_)
    -- mq: cond
    refine CW.condT rfl (rfl) ?_
    refine CW.seq (CW.region ?_)
    refine RW.assign rfl rfl ?_
    refine RW.assign rfl rfl ?_
    refine RW.assign rfl rfl ?_
    refine RW.nil (EX.seq (CW.ret (EX.seqR ?_)))
    refine EX.fin3 Tryd.results15 rfl rfl rfl (fun wz hw => ?_)
    -- mq: done
    exact ⟨rfl, hw.ext⟩
  · skip
    rw [show ([27, 91] : List UInt8).length = 2 from rfl, if_neg h2, decide_eq_false h2]
    refine RW.move rfl rfl ?_
    refine RW.extract rfl rfl rfl ?_
    refine RW.extract rfl rfl rfl ?_
    refine RW.assign rfl rfl ?_
    refine RW.assign rfl rfl ?_
    refine RW.nil (EX.seq (CW.seq (CW.seq (CW.region ?_))))
    refine RW.move rfl rfl ?_
    refine RW.not_ rfl rfl ?_
    refine RW.move rfl rfl ?_
    refine RW.guardF rfl rfl rfl rfl ?_
    refine RW.guardF rfl rfl rfl rfl ?_
    refine RW.pickB rfl rfl rfl rfl ?_
    refine RW.nil (EX.seq ?_)
    -- mq: cond
    refine CW.condT rfl (rfl) ?_
    refine CW.seq (CW.region ?_)
    refine RW.assign rfl rfl ?_
    refine RW.assign rfl rfl ?_
    refine RW.assign rfl rfl ?_
    refine RW.nil (EX.seq (CW.ret (EX.seqR ?_)))
    refine EX.fin3 Tryd.results15 rfl rfl rfl (fun wz hw => ?_)
    -- mq: done
    exact ⟨rfl, hw.ext⟩
theorem read_good (w : World) (h : List UInt8) (c : UInt8) (hs : h.length ≤ 1000000) : Calls Tryd.prog 15 [.string (bs (27 :: 91 :: (h ++ [c])))].toArray w (RetA (IsRd (.int .i64 0) (.int .i64 4) h c w) w) := by
  refine calls (n := 67) Tryd.func15 rfl Tryd.ntmps15 rfl ?_
  refine CW.sub (H' := SH w [] []) ?_ (Sub.refl _) (fun x hx => SH.start' _ _ hx)
  refine CW.seq (CW.region ?_)
  refine RW.assign rfl rfl ?_
  refine RW.assign rfl rfl ?_
  refine RW.assign rfl rfl ?_
  refine RW.nil (EX.seq (CW.seq (CW.region ?_)))
  refine RW.move rfl rfl ?_
  -- mq: op 1: ('Op.call', ('Call.mk', ('Callee.value', ('Operand.func', '28')), ('arr', ('Operand.tmp', '11'), ('Operand.const', ('Value.string', ('ByteArray.mk', ('arr', '27', '91'))))), ('arr', '9', '9'))) -> slot 12 ("reply.go:70")
  refine RW.call rfl ca28 rfl (fun w' _ => cutPrefix_c w' (27 :: 91 :: (h ++ [c])) [27, 91] (by simp; omega) (by decide)) ?_
  have ht : (27 :: 91 :: (h ++ [c])).take ([27, 91] : List UInt8).length = [27, 91] := by simp
  have hd : (27 :: 91 :: (h ++ [c])).drop ([27, 91] : List UInt8).length = h ++ [c] := by simp
  rw [if_pos ht, decide_eq_true ht, hd]
  have hix : (h ++ [c])[h.length]? = some c := by simp
  have hl1 : (h ++ [c]).length = h.length + 1 := by simp
  refine RW.move rfl rfl ?_
  refine RW.extract rfl rfl rfl ?_
  refine RW.extract rfl rfl rfl ?_
  refine RW.assign rfl rfl ?_
  refine RW.assign rfl rfl ?_
  refine RW.nil (EX.seq (CW.seq (CW.seq (CW.region ?_))))
  refine RW.move rfl rfl ?_
  refine RW.not_ rfl rfl ?_
  refine RW.move rfl rfl ?_
  refine RW.guardT rfl rfl rfl ?_
  refine RW.move rfl rfl ?_
  refine RW.guardT rfl rfl rfl ?_
  refine RW.eqlS rfl rfl rfl ?_
  refine RW.pickC rfl rfl rfl rfl ?_
  refine RW.nil (EX.seq ?_)
  -- mq: cond
  refine CW.condF rfl ((decide_eq_false (by simp))) ?_
  refine CW.skip (EX.seq (CW.seq (CW.region ?_)))
  refine RW.move rfl rfl ?_
  refine RW.move rfl rfl ?_
  refine RW.lenS Tryd.underlying9 rfl rfl ?_
  refine RW.sub_ rfl rfl rfl (wrap64 (by omega) (by omega)) ?_
  refine RW.ixStr (q := h.length) Tryd.underlying9 rfl rfl rfl (by omega) hix ?_
  refine RW.assign rfl rfl ?_
  refine RW.nil (EX.seq (CW.seq (CW.region ?_)))
  refine RW.move rfl rfl ?_
  refine RW.move rfl rfl ?_
  refine RW.lenS Tryd.underlying9 rfl rfl ?_
  refine RW.sub_ rfl rfl rfl (wrap64 (by omega) (by omega)) ?_
  refine RW.sliceStrH h.length Tryd.underlying9 rfl rfl rfl (by first | rfl | omega) (by first | omega | (simp; done) | (simp; omega)) ?_
  refine RW.assign rfl rfl ?_
  refine RW.nil (EX.seq (CW.seq ?_))
  -- mq: seq
  rw [show (h ++ [c]).take h.length = h by simp]
  refine CW.join ([(7, .int .u8 (c.toNat : Int)), (8, .string (bs (stripF h)))]) (SH w [] []) ?_ ?_
  · skip
    refine CW.seq (CW.region ?_)
    refine RW.move rfl rfl ?_
    refine RW.neqS rfl rfl rfl ?_
    refine RW.move rfl rfl ?_
    -- mq: guard slot 33
    cases h with
    | nil =>
      refine RW.guardF rfl rfl rfl rfl ?_
      refine RW.guardF rfl rfl rfl rfl ?_
      refine RW.guardF rfl rfl rfl rfl ?_
      refine RW.pickC rfl rfl rfl rfl ?_
      refine RW.move rfl rfl ?_
      refine RW.guardF rfl rfl rfl rfl ?_
      refine RW.guardF rfl rfl rfl rfl ?_
      refine RW.guardF rfl rfl rfl rfl ?_
      refine RW.pickC rfl rfl rfl rfl ?_
      refine RW.nil (EX.seq ?_)
      -- mq: cond
      -- mq: cond
      refine CW.condF rfl (rfl) ?_
      refine CW.skip ?_
      -- mq: joinend
      exact EX.jn (by repeat (first | exact Sub.nil | refine Sub.cons (by rfl) ?_)) (fun _ h => h)
    | cons x t =>
      refine RW.guardT rfl rfl (decide_eq_true (by simp)) ?_
      refine RW.move rfl rfl ?_
      refine RW.guardT rfl rfl (decide_eq_true (by simp)) ?_
      refine RW.ixStr (q := 0) Tryd.underlying9 rfl rfl rfl (by rfl) rfl ?_
      refine RW.guardT rfl rfl (decide_eq_true (by simp)) ?_
      refine RW.geq rfl rfl rfl ?_
      refine RW.pickB rfl rfl (decide_eq_true (by simp)) rfl ?_
      refine RW.move rfl rfl ?_
      -- mq: guard slot 38
      refine RW.casesB 38 rfl (fun h1 => ?_) (fun h1 => ?_)
      · skip
        have h1p := of_decide_eq_true h1
        refine RW.guardT rfl rfl h1 ?_
        refine RW.move rfl rfl ?_
        refine RW.guardT rfl rfl h1 ?_
        refine RW.ixStr (q := 0) Tryd.underlying9 rfl rfl rfl (by rfl) rfl ?_
        refine RW.guardT rfl rfl h1 ?_
        refine RW.leq rfl rfl rfl ?_
        refine RW.pickB rfl rfl h1 rfl ?_
        refine RW.nil (EX.seq ?_)
        -- mq: cond
        first | refine CW.condD rfl (fun h2 => ?_) (fun h2 => ?_) | refine CW.cond rfl (fun h2 => ?_) (fun h2 => ?_)
        · skip
          refine CW.region ?_
          refine RW.move rfl rfl ?_
          refine RW.sliceStrL (1) Tryd.underlying9 rfl rfl rfl (by first | rfl | omega) (by first | omega | (simp; done) | (simp; omega)) ?_
          refine RW.assign rfl rfl ?_
          refine RW.nil ?_
          -- mq: joinend
          rw [show stripF (x :: t) = t from if_pos ⟨by omega, by omega⟩]
          exact EX.jn (by repeat (first | exact Sub.nil | refine Sub.cons (by rfl) ?_)) (fun _ h => h)
        · skip
          refine CW.skip ?_
          -- mq: joinend
          rw [show stripF (x :: t) = x :: t from if_neg (by omega)]
          exact EX.jn (by repeat (first | exact Sub.nil | refine Sub.cons (by rfl) ?_)) (fun _ h => h)
      · skip
        have h1p := of_decide_eq_false h1
        refine RW.guardF rfl rfl rfl h1 ?_
        refine RW.guardF rfl rfl rfl h1 ?_
        refine RW.guardF rfl rfl rfl h1 ?_
        refine RW.pickC rfl rfl h1 rfl ?_
        refine RW.nil (EX.seq ?_)
        -- mq: cond
        refine CW.condF rfl (rfl) ?_
        refine CW.skip ?_
        -- mq: joinend
        rw [show stripF (x :: t) = x :: t from if_neg (by omega)]
        exact EX.jn (by repeat (first | exact Sub.nil | refine Sub.cons (by rfl) ?_)) (fun _ h => h)
  · skip
    have hsl := stripF_len h
    unfold IsRd okF
    generalize stripF h = g at *
    refine EX.seq (CW.seq ?_)
    -- mq: region
    refine CW.region ?_
    refine RW.move rfl rfl ?_
    -- mq: at
    refine RW.callA (R := fun w0 v w' => ∃ A n c, v = .tuple #[.slice A n c, .bool (headB g)] ∧ (headB g = true → RdG w' (fun k => w0.heap.size ≤ k) A n c (parseF g))) rfl ca29 rfl (fun w' hw' => (Parse_c w' g (by omega)).mono (fun e w'' h => parse_form h)) ?_
    rintro w0 w1 v hw0 he01 hw1 hlt ⟨A, n, k, rfl, hrd⟩
    have hx0 : Ext [] w w1 := hw0.ext.trans0 he01
    have hsz := hw0.ext.size
    rw [show feet [] = [] from rfl]
    refine RW.move rfl rfl ?_
    refine RW.extract rfl rfl rfl ?_
    refine RW.extract rfl rfl rfl ?_
    refine RW.assign rfl rfl ?_
    refine RW.assign rfl rfl ?_
    refine RW.nil (EX.seq (CW.seq (CW.seq (CW.region ?_))))
    refine RW.move rfl rfl ?_
    refine RW.not_ rfl rfl ?_
    refine RW.move rfl rfl ?_
    -- mq: guard slot 52
    cases hh : headB g with
    | false =>
      refine RW.guardF rfl rfl rfl rfl ?_
      refine RW.guardF rfl rfl rfl rfl ?_
      refine RW.guardF rfl rfl rfl rfl ?_
      refine RW.pickB rfl rfl rfl rfl ?_
      refine RW.move rfl rfl ?_
      refine RW.guardF rfl rfl rfl rfl ?_
      refine RW.guardF rfl rfl rfl rfl ?_
      refine RW.pickB rfl rfl rfl rfl ?_
      refine RW.move rfl rfl ?_
      refine RW.guardF rfl rfl rfl rfl ?_
      refine RW.guardF rfl rfl rfl rfl ?_
      refine RW.pickB rfl rfl rfl rfl ?_
      refine RW.nil (EX.seq ?_)
      -- mq: cond
      -- mq: cond
      -- mq: cond
      refine CW.condT rfl (rfl) ?_
      refine CW.seq (CW.region ?_)
      refine RW.assign rfl rfl ?_
      refine RW.assign rfl rfl ?_
      refine RW.assign rfl rfl ?_
      refine RW.nil (EX.seq (CW.ret (EX.seqR ?_)))
      refine EX.fin3 Tryd.results15 rfl rfl rfl (fun wz hw => ?_)
      -- mq: done
      exact ⟨_, rfl, hx0.trans0 hw.ext, by simp⟩
    | true =>
      have hrd := hrd hh
      refine RW.guardT rfl rfl rfl ?_
      refine RW.move rfl rfl ?_
      refine RW.guardT rfl rfl rfl ?_
      refine RW.lenS Tryd.underlying9 rfl rfl ?_
      refine RW.guardT rfl rfl rfl ?_
      refine RW.gtr rfl rfl rfl ?_
      refine RW.pickC rfl rfl rfl rfl ?_
      refine RW.move rfl rfl ?_
      -- mq: guard slot 57
      refine RW.casesB 57 rfl (fun h1 => ?_) (fun h1 => ?_)
      · skip
        have h1p := of_decide_eq_true h1
        refine RW.guardF rfl rfl rfl h1 ?_
        refine RW.guardF rfl rfl rfl h1 ?_
        refine RW.pickB rfl rfl h1 rfl ?_
        refine RW.move rfl rfl ?_
        refine RW.guardF rfl rfl rfl rfl ?_
        refine RW.guardF rfl rfl rfl rfl ?_
        refine RW.pickB rfl rfl rfl rfl ?_
        refine RW.nil (EX.seq ?_)
        -- mq: cond
        -- mq: cond
        refine CW.condT rfl (rfl) ?_
        refine CW.seq (CW.region ?_)
        refine RW.assign rfl rfl ?_
        refine RW.assign rfl rfl ?_
        refine RW.assign rfl rfl ?_
        refine RW.nil (EX.seq (CW.ret (EX.seqR ?_)))
        refine EX.fin3 Tryd.results15 rfl rfl rfl (fun wz hw => ?_)
        -- mq: done
        refine ⟨_, rfl, hx0.trans0 hw.ext, ?_⟩
        dsimp only; rw [if_neg (by simp; omega)]
      · skip
        have h1p := of_decide_eq_false h1
        refine RW.guardT rfl rfl h1 ?_
        refine RW.move rfl rfl ?_
        refine RW.guardT rfl rfl h1 ?_
        refine RW.lss rfl rfl rfl ?_
        refine RW.pickC rfl rfl h1 rfl ?_
        refine RW.move rfl rfl ?_
        -- mq: guard slot 61
        refine RW.casesB 61 rfl (fun h2 => ?_) (fun h2 => ?_)
        · skip
          have h2p := of_decide_eq_true h2
          refine RW.guardF rfl rfl rfl h2 ?_
          refine RW.guardF rfl rfl rfl h2 ?_
          refine RW.pickB rfl rfl h2 rfl ?_
          refine RW.nil (EX.seq ?_)
          -- mq: cond
          refine CW.condT rfl (rfl) ?_
          refine CW.seq (CW.region ?_)
          refine RW.assign rfl rfl ?_
          refine RW.assign rfl rfl ?_
          refine RW.assign rfl rfl ?_
          refine RW.nil (EX.seq (CW.ret (EX.seqR ?_)))
          refine EX.fin3 Tryd.results15 rfl rfl rfl (fun wz hw => ?_)
          -- mq: done
          refine ⟨_, rfl, hx0.trans0 hw.ext, ?_⟩
          dsimp only; rw [if_neg (by simp; omega)]
        · skip
          have h2p := of_decide_eq_false h2
          refine RW.guardT rfl rfl h2 ?_
          refine RW.move rfl rfl ?_
          refine RW.guardT rfl rfl h2 ?_
          refine RW.gtr rfl rfl rfl ?_
          refine RW.pickC rfl rfl h2 rfl ?_
          refine RW.nil (EX.seq ?_)
          -- mq: cond
          first | refine CW.condD rfl (fun h3 => ?_) (fun h3 => ?_) | refine CW.cond rfl (fun h3 => ?_) (fun h3 => ?_)
          · skip
            refine CW.seq (CW.region ?_)
            refine RW.assign rfl rfl ?_
            refine RW.assign rfl rfl ?_
            refine RW.assign rfl rfl ?_
            refine RW.nil (EX.seq (CW.ret (EX.seqR ?_)))
            refine EX.fin3 Tryd.results15 rfl rfl rfl (fun wz hw => ?_)
            -- mq: done
            refine ⟨_, rfl, hx0.trans0 hw.ext, ?_⟩
            dsimp only; rw [if_neg (by simp; omega)]
          · skip
            refine CW.skip (EX.seq (CW.seq (CW.region ?_)))
            refine RW.move rfl rfl ?_
            refine RW.move rfl rfl ?_
            refine RW.assign rfl rfl ?_
            refine RW.assign rfl rfl ?_
            refine RW.assign rfl rfl ?_
            refine RW.nil (EX.seq (CW.ret ?_))
            refine EX.fin3 Tryd.results15 rfl rfl rfl (fun wz hw => ?_)
            -- mq: done
            refine ⟨_, rfl, hx0.trans0 hw.ext, ?_⟩
            dsimp only; rw [if_pos (by simp; omega)]
            exact ⟨A, n, k, rfl, (hrd.ext hw.ext (by simp)).weak (fun q hq => by omega)⟩
end Go.Proofs.YtjplfonmdjnplaaDoor.Mq
