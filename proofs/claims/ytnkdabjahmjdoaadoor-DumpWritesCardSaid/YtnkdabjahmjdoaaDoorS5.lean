/- dump: the reference's number, row; dump: the reference's split; dump: the reference's split, walked (under way); dump: the reference's bytes; dump: the reference's guess, in plain words -/
import Derived.Test.YtnkdabjahmjdoaaDoorR9
namespace Go.Proofs.YtnkdabjahmjdoaaDoor.Mq
open Go Go.RowKit Go.Proofs

def stepU (u : Nat) (c : UInt8) : Nat := if 48 ≤ c.toNat ∧ c.toNat ≤ 57 then (10 * u + (c.toNat - 48)) % 18446744073709551616 else u
def numU (x : List UInt8) : Nat := (x.take 20).foldl stepU 0
theorem stepU_lt {u : Nat} {c : UInt8} (h : u < 18446744073709551616) : stepU u c < 18446744073709551616 := by
  unfold stepU; split <;> omega
theorem foldU_lt : ∀ (l : List UInt8) (u : Nat), u < 18446744073709551616 → l.foldl stepU u < 18446744073709551616
  | [], _, h => h
  | c :: l, u, h => foldU_lt l _ (stepU_lt h)
theorem numU_lt (x : List UInt8) : numU x < 18446744073709551616 := foldU_lt _ _ (by decide)
theorem foldU_dec : ∀ (l : List UInt8) (u : Nat), (∀ c ∈ l, digitB c = true) → l.foldl stepD u < 18446744073709551616 → l.foldl stepU u = l.foldl stepD u
  | [], _, _, _ => rfl
  | c :: l, u, hd, hb => by
    have hc := of_decide_eq_true (hd c (by simp))
    rw [List.foldl_cons] at hb ⊢
    have hm := stepD_mono l (stepD u c)
    have e : stepU u c = stepD u c := by
      have e0 : stepD u c = 10 * u + (c.toNat - 48) := rfl
      unfold stepU
      rw [if_pos hc, ← e0]
      exact Nat.mod_eq_of_lt (by omega)
    rw [List.foldl_cons, e]
    exact foldU_dec l _ (fun x hx => hd x (by simp [hx])) hb
theorem numU_dec {n : Nat} (h : n < 18446744073709551616) : numU (Lib.decDigits n) = n := by
  unfold numU
  rw [List.take_of_length_le (dec_len20 h), foldU_dec _ _ (dec_all n) (by rw [← numD_eq, numD_dec]; exact h), ← numD_eq, numD_dec]
theorem numU_neg {n : Nat} (h : n ≤ 9223372036854775808) : numU (45 :: Lib.decDigits n) = n := by
  have hl : (Lib.decDigits n).length ≤ 19 := dec_len (k := 18) (by omega)
  unfold numU
  rw [List.take_of_length_le (by simp; omega), List.foldl_cons, show stepU 0 45 = 0 by decide, foldU_dec _ _ (dec_all n) (by rw [← numD_eq, numD_dec]; omega), ← numD_eq, numD_dec]
theorem num31_c (w : World) (x : List UInt8) (hx : x.length ≤ 1000000) :
    Calls Tryd.prog 43 [.string (bs x)].toArray w (fun e w' => e = .returned (.int .u64 ((numU x : Nat) : Int)) ∧ Ext [] w w') := by
  refine calls (n := 34) Tryd.func43 rfl Tryd.ntmps43 rfl ?_
  refine CW.sub (H' := SH w [] []) ?_ (Sub.refl _) (fun x hx => SH.start' _ _ hx)
  refine CW.seq (CW.region ?_)
  refine RW.assign rfl rfl ?_
  refine RW.nil (EX.seq (CW.seq (CW.region ?_)))
  refine RW.assign rfl rfl ?_
  refine RW.nil (EX.seq (CW.seq (CW.seq (CW.region ?_))))
  refine RW.assign rfl rfl ?_
  refine RW.nil (EX.seq (CW.block ?_))
  -- mq: loop
  refine CW.loop (ι := Nat) (fun i => [(0, .string (bs x)), (3, .int .u64 (((x.take i).foldl stepU 0 : Nat) : Int)), (4, .int .i64 (i : Int))]) (fun _ => SH w [] []) (fun i => i ≤ x.length ∧ i ≤ 20) (fun i => 20 - i) ?_ ?_
  · exact fun w' hw' => ⟨0, ⟨Nat.zero_le _, Nat.zero_le _⟩, (by repeat (first | exact Sub.nil | refine Sub.cons (by rfl) ?_)), hw'⟩
  · rintro i ⟨hi, hi20⟩
    have hu := foldU_lt (x.take i) 0 (by decide)
    refine CW.seq (CW.seq (CW.region ?_))
    refine RW.move rfl rfl ?_
    refine RW.move rfl rfl ?_
    refine RW.lenS Tryd.underlying9 rfl rfl ?_
    refine RW.lss rfl rfl rfl ?_
    refine RW.move rfl rfl ?_
    -- mq: guard slot 9
    refine RW.casesB 9 rfl (fun h1 => ?_) (fun h1 => ?_)
    · skip
      have h1p := of_decide_eq_true h1
      refine RW.guardT rfl rfl h1 ?_
      refine RW.move rfl rfl ?_
      refine RW.guardT rfl rfl h1 ?_
      refine RW.lss rfl rfl rfl ?_
      refine RW.pickB rfl rfl h1 rfl ?_
      refine RW.nil (EX.seq ?_)
      -- mq: cond
      first | refine CW.condD rfl (fun h2 => ?_) (fun h2 => ?_) | refine CW.cond rfl (fun h2 => ?_) (fun h2 => ?_)
      · skip
        obtain ⟨c, hc⟩ : ∃ c, x[i]? = some c := ⟨x[i]'(by omega), List.getElem?_eq_getElem _⟩
        have hc8 := UInt8.toNat_lt c
        have hst : (x.take (i + 1)).foldl stepU 0 = stepU ((x.take i).foldl stepU 0) c := by rw [List.take_add_one, hc, Option.toList_some, List.foldl_append]; rfl
        generalize hU : (x.take i).foldl stepU 0 = u at hst hu
        have hno : ¬ (48 ≤ c.toNat ∧ c.toNat ≤ 57) → (x.take (i + 1)).foldl stepU 0 = u := fun h => by rw [hst, stepU, if_neg h]
        refine CW.skip (EX.seq (CW.seq (CW.block (CW.seq (CW.region ?_)))))
        refine RW.move rfl rfl ?_
        refine RW.move rfl rfl ?_
        refine RW.ixStr (q := i) Tryd.underlying9 rfl rfl rfl (by omega) hc ?_
        refine RW.geq rfl rfl rfl ?_
        refine RW.move rfl rfl ?_
        -- mq: guard slot 19
        refine RW.casesB 19 rfl (fun h3 => ?_) (fun h3 => ?_)
        · skip
          have h3p := of_decide_eq_true h3
          refine RW.guardT rfl rfl h3 ?_
          refine RW.move rfl rfl ?_
          refine RW.guardT rfl rfl h3 ?_
          refine RW.move rfl rfl ?_
          refine RW.guardT rfl rfl h3 ?_
          refine RW.ixStr (q := i) Tryd.underlying9 rfl rfl rfl (by omega) hc ?_
          refine RW.guardT rfl rfl h3 ?_
          refine RW.leq rfl rfl rfl ?_
          refine RW.pickB rfl rfl h3 rfl ?_
          refine RW.nil (EX.seq ?_)
          -- mq: cond
          first | refine CW.condD rfl (fun h4 => ?_) (fun h4 => ?_) | refine CW.cond rfl (fun h4 => ?_) (fun h4 => ?_)
          · skip
            have hyes : (x.take (i + 1)).foldl stepU 0 = (10 * u + (c.toNat - 48)) % 18446744073709551616 := by rw [hst, stepU, if_pos ⟨by omega, by omega⟩]
            refine CW.region ?_
            refine RW.move rfl rfl ?_
            refine RW.mul (r := ((10 * u % 18446744073709551616 : Nat) : Int)) rfl rfl rfl (by rw [IntKind.wrap_u64]; omega) ?_
            refine RW.move rfl rfl ?_
            refine RW.move rfl rfl ?_
            refine RW.ixStr (q := i) Tryd.underlying9 rfl rfl rfl (by omega) hc ?_
            refine RW.sub_ (r := ((c.toNat - 48 : Nat) : Int)) rfl rfl rfl (by rw [IntKind.wrap_u8]; omega) ?_
            refine RW.convI (r := ((c.toNat - 48 : Nat) : Int)) rfl rfl Tryd.underlying5 Tryd.underlying22 (by rw [IntKind.wrap_u64]; omega) ?_
            refine RW.add (r := (((10 * u + (c.toNat - 48)) % 18446744073709551616 : Nat) : Int)) rfl rfl rfl (by rw [IntKind.wrap_u64]; omega) ?_
            refine RW.assign rfl rfl ?_
            refine RW.nil (EX.bkN (EX.seq (CW.region ?_)))
            refine RW.move rfl rfl ?_
            refine RW.add rfl rfl rfl (wrap64 (by omega) (by omega)) ?_
            refine RW.assign rfl rfl ?_
            refine RW.nil ?_
            -- mq: loopend
            exact EX.lpN (i + 1) ⟨by omega, by omega⟩ (by omega) (by rw [hyes]; exact (by repeat (first | exact Sub.nil | refine Sub.cons (by rfl) ?_))) (fun w' hw' => hw')
          · skip
            refine CW.skip (EX.bkN (EX.seq (CW.region ?_)))
            refine RW.move rfl rfl ?_
            refine RW.add rfl rfl rfl (wrap64 (by omega) (by omega)) ?_
            refine RW.assign rfl rfl ?_
            refine RW.nil ?_
            -- mq: loopend
            exact EX.lpN (i + 1) ⟨by omega, by omega⟩ (by omega) (by rw [hno (by omega)]; exact (by repeat (first | exact Sub.nil | refine Sub.cons (by rfl) ?_))) (fun w' hw' => hw')
        · skip
          have h3p := of_decide_eq_false h3
          refine RW.guardF rfl rfl rfl h3 ?_
          refine RW.guardF rfl rfl rfl h3 ?_
          refine RW.guardF rfl rfl rfl h3 ?_
          refine RW.guardF rfl rfl rfl h3 ?_
          refine RW.pickC rfl rfl h3 rfl ?_
          refine RW.nil (EX.seq ?_)
          -- mq: cond
          refine CW.condF rfl (rfl) ?_
          refine CW.skip (EX.bkN (EX.seq (CW.region ?_)))
          refine RW.move rfl rfl ?_
          refine RW.add rfl rfl rfl (wrap64 (by omega) (by omega)) ?_
          refine RW.assign rfl rfl ?_
          refine RW.nil ?_
          -- mq: loopend
          exact EX.lpN (i + 1) ⟨by omega, by omega⟩ (by omega) (by rw [hno (by omega)]; exact (by repeat (first | exact Sub.nil | refine Sub.cons (by rfl) ?_))) (fun w' hw' => hw')
      · skip
        obtain rfl : i = 20 := by omega
        refine CW.exit (EX.seqE (EX.lpE (EX.bkE (EX.seq (CW.seq (CW.region ?_))))))
        refine RW.move rfl rfl ?_
        refine RW.assign rfl rfl ?_
        refine RW.nil (EX.seq (CW.ret ?_))
        refine EX.fin1 Tryd.results43 rfl (fun wz hw => ?_)
        -- mq: done
        exact ⟨rfl, hw.ext⟩
    · skip
      have h1p := of_decide_eq_false h1
      have htk : x.take i = x.take 20 := by rw [List.take_of_length_le (by omega), List.take_of_length_le (by omega)]
      rw [htk]
      refine RW.guardF rfl rfl rfl h1 ?_
      refine RW.guardF rfl rfl rfl h1 ?_
      refine RW.pickC rfl rfl h1 rfl ?_
      refine RW.nil (EX.seq ?_)
      -- mq: cond
      refine CW.condF rfl (rfl) ?_
      refine CW.exit (EX.seqE (EX.lpE (EX.bkE (EX.seq (CW.seq (CW.region ?_))))))
      refine RW.move rfl rfl ?_
      refine RW.assign rfl rfl ?_
      refine RW.nil (EX.seq (CW.ret ?_))
      refine EX.fin1 Tryd.results43 rfl (fun wz hw => ?_)
      -- mq: done
      exact ⟨rfl, hw.ext⟩
def rowU (x : List UInt8) : Int := if 1099511627776 < numU x then -1 else (numU x : Int)
theorem row31_c (w : World) (x : List UInt8) (hx : x.length ≤ 1000000) :
    Calls Tryd.prog 44 [.string (bs x)].toArray w (fun e w' => e = .returned (.int .i64 (rowU x)) ∧ Ext [] w w') := by
  refine calls (n := 10) Tryd.func44 rfl Tryd.ntmps44 rfl ?_
  refine CW.sub (H' := SH w [] []) ?_ (Sub.refl _) (fun x hx => SH.start' _ _ hx)
  refine CW.seq (CW.region ?_)
  refine RW.assign rfl rfl ?_
  refine RW.nil (EX.seq (CW.seq ?_))
  -- mq: region
  refine CW.region ?_
  refine RW.move rfl rfl ?_
  refine RW.call rfl ca43 rfl (fun w' _ => num31_c w' x hx) ?_
  refine RW.assign rfl rfl ?_
  refine RW.nil (EX.seq (CW.seq (CW.seq (CW.region ?_))))
  refine RW.move rfl rfl ?_
  refine RW.gtr rfl rfl rfl ?_
  refine RW.nil (EX.seq ?_)
  -- mq: cond
  first | refine CW.condD rfl (fun h1 => ?_) (fun h1 => ?_) | refine CW.cond rfl (fun h1 => ?_) (fun h1 => ?_)
  · skip
    refine CW.seq (CW.region ?_)
    refine RW.assign rfl rfl ?_
    refine RW.nil (EX.seq (CW.ret (EX.seqR ?_)))
    refine EX.fin1 Tryd.results44 rfl (fun wz hw => ?_)
    -- mq: done
    exact ⟨by rw [rowU, if_pos (by omega)], hw.ext⟩
  · skip
    refine CW.skip (EX.seq (CW.seq (CW.region ?_)))
    refine RW.move rfl rfl ?_
    refine RW.convI (r := ((numU x : Nat) : Int)) rfl rfl Tryd.underlying22 Tryd.underlying3 (wrap64 (by omega) (by omega)) ?_
    refine RW.assign rfl rfl ?_
    refine RW.nil (EX.seq (CW.ret ?_))
    refine EX.fin1 Tryd.results44 rfl (fun wz hw => ?_)
    -- mq: done
    exact ⟨by rw [rowU, if_neg (by omega)], hw.ext⟩
end Go.Proofs.YtnkdabjahmjdoaaDoor.Mq

namespace Go.Proofs.YtnkdabjahmjdoaaDoor.Mq
open Go Go.RowKit Go.Proofs

/-- words so far: the last one grows -/
def growW (W : List (List UInt8)) (c : UInt8) : List (List UInt8) := if c = 32 then W ++ [[]] else W.dropLast ++ [W.getLastD [] ++ [c]]
theorem full_grow : ∀ (s : List UInt8) (c : UInt8), fullP 32 (s ++ [c]) = growW (fullP 32 s) c
  | [], c => by
    unfold growW
    show fullP 32 [c] = _
    unfold fullP
    split <;> rfl
  | a :: s, c => by
    have ih := full_grow s c
    have hne := fullP_ne 32 s
    rw [List.cons_append]
    unfold fullP
    by_cases ha : a = 32
    · rw [if_pos ha, if_pos ha, ih]
      unfold growW
      cases hf : fullP 32 s with
      | nil => exact absurd hf hne
      | cons p ps => split <;> simp [List.dropLast, List.getLastD]
    · rw [if_neg ha, if_neg ha, ih]
      cases hf : fullP 32 s with
      | nil => exact absurd hf hne
      | cons p ps =>
        unfold growW
        by_cases hc : c = 32
        · rw [if_pos hc, if_pos hc]; rfl
        · rw [if_neg hc, if_neg hc]
          cases ps with
          | nil => rfl
          | cons q qs => simp [List.dropLast, List.getLastD]
end Go.Proofs.YtnkdabjahmjdoaaDoor.Mq

namespace Go.Proofs.YtnkdabjahmjdoaaDoor.Mq
open Go Go.RowKit Go.Proofs

theorem rsplit_c (w : World) (s : List UInt8) (hs : s.length ≤ 1000000) :
    Calls Tryd.prog 42 [.string (bs s)].toArray w (RetSl EStr w (fullP 32 s)) := by
  refine calls (n := 37) Tryd.func42 rfl Tryd.ntmps42 rfl ?_
  refine CW.sub (H' := SH w [] []) ?_ (Sub.refl _) (fun x hx => SH.start' _ _ hx)
  refine CW.seq (CW.region ?_)
  refine RW.assign rfl rfl ?_
  refine RW.nil (EX.seq (CW.seq (CW.region ?_)))
  refine RW.buildSlc sl33 rfl rfl rfl rfl (fun g5 hg5 hf5 => ?_)
  refine RW.assign rfl rfl ?_
  refine RW.nil (EX.seq (CW.seq (CW.seq ?_)))
  -- mq: region
  refine CW.ownBlk (m := 1) (sz := 1) (by first | exact Upd.head | exact Upd.tail Upd.head | exact Upd.tail (Upd.tail Upd.head) | exact Upd.tail (Upd.tail (Upd.tail Upd.head)) | exact Upd.tail (Upd.tail (Upd.tail (Upd.tail Upd.head))) | exact Upd.tail (Upd.tail (Upd.tail (Upd.tail (Upd.tail Upd.head)))) | exact Upd.tail (Upd.tail (Upd.tail (Upd.tail (Upd.tail (Upd.tail Upd.head)))))) rfl (by decide) ?_
  refine CW.region ?_
  refine RW.assign rfl rfl ?_
  refine RW.nil (EX.seq (CW.block ?_))
  -- mq: loop
  refine CW.loop (ι := Nat × Value) (fun t => [(0, .string (bs s)), (3, t.2), (4, .int .i64 (t.1 : Int))]) (fun t => SH w [] [own 9 1 t.2 (fullP 32 (s.take t.1)).length (EStr.all (fullP 32 (s.take t.1)))]) (fun t => t.1 ≤ s.length) (fun t => s.length - t.1) ?_ ?_
  · exact fun w' hw' => ⟨(0, _), Nat.zero_le _, (by repeat (first | exact Sub.nil | refine Sub.cons (by rfl) ?_)), hw'⟩
  · rintro ⟨i, v⟩ hi
    dsimp only at hi ⊢
    have hfl := full_len 32 (s.take i)
    have hpos : 0 < (fullP 32 (s.take i)).length := List.length_pos_iff.2 (fullP_ne 32 _)
    have htl : (s.take i).length = i := by rw [List.length_take]; omega
    refine CW.formOwn (v := v) Has.head (fun A4 c4 hv4 hcap4 hmax4 hlen4 hg4 => ?_)
    subst hv4
    obtain ⟨g4, rfl⟩ := hg4 hpos
    refine CW.seq (CW.seq (CW.region ?_))
    refine RW.move rfl rfl ?_
    refine RW.move rfl rfl ?_
    refine RW.lenS Tryd.underlying9 rfl rfl ?_
    refine RW.lss rfl rfl rfl ?_
    refine RW.nil (EX.seq ?_)
    -- mq: cond
    first | refine CW.condD rfl (fun hlt => ?_) (fun hlt => ?_) | refine CW.cond rfl (fun hlt => ?_) (fun hlt => ?_)
    · skip
      obtain ⟨c, hc⟩ : ∃ c, s[i]? = some c := ⟨s[i]'(by omega), List.getElem?_eq_getElem _⟩
      have hc8 := UInt8.toNat_lt c
      have hg := full_grow (s.take i) c
      rw [show s.take i ++ [c] = s.take (i + 1) by rw [List.take_add_one, hc]; rfl] at hg
      refine CW.skip (EX.seq (CW.seq (CW.block (CW.seq (CW.region ?_)))))
      refine RW.move rfl rfl ?_
      refine RW.move rfl rfl ?_
      refine RW.ixStr (q := i) Tryd.underlying9 rfl rfl rfl (by omega) hc ?_
      refine RW.eqlI rfl rfl rfl ?_
      refine RW.nil (EX.seq ?_)
      -- mq: cond
      first | refine CW.condD rfl (fun h2 => ?_) (fun h2 => ?_) | refine CW.cond rfl (fun h2 => ?_) (fun h2 => ?_)
      · skip
        obtain rfl : c = 32 := UInt8.toNat_inj.1 (by have : (32 : UInt8).toNat = 32 := rfl; omega)
        refine CW.region ?_
        refine RW.move rfl rfl ?_
        refine RW.buildSlc sl33 rfl rfl rfl rfl (fun g17 hg17 hf17 => ?_)
        refine RW.append1 sl33 rfl rfl rfl (by first | exact Rem.head | exact Rem.tail Rem.head | exact Rem.tail (Rem.tail Rem.head) | exact Rem.tail (Rem.tail (Rem.tail Rem.head)) | exact Rem.tail (Rem.tail (Rem.tail (Rem.tail Rem.head))) | exact Rem.tail (Rem.tail (Rem.tail (Rem.tail (Rem.tail Rem.head)))) | exact Rem.tail (Rem.tail (Rem.tail (Rem.tail (Rem.tail (Rem.tail Rem.head)))))) (fun _ => by first | exact Upd.head | exact Upd.tail Upd.head | exact Upd.tail (Upd.tail Upd.head) | exact Upd.tail (Upd.tail (Upd.tail Upd.head)) | exact Upd.tail (Upd.tail (Upd.tail (Upd.tail Upd.head))) | exact Upd.tail (Upd.tail (Upd.tail (Upd.tail (Upd.tail Upd.head)))) | exact Upd.tail (Upd.tail (Upd.tail (Upd.tail (Upd.tail (Upd.tail Upd.head)))))) rfl (by repeat (first | exact Ones.nil | exact Enc.ones _ _ | refine Ones.cons rfl ?_)) (by simp only [maxLen]; omega) (by omega) (fun v18 hv18 => ?_)
        refine RW.assign rfl rfl ?_
        refine RW.nil (EX.bkN (EX.seq (CW.region ?_)))
        refine RW.move rfl rfl ?_
        refine RW.add rfl rfl rfl (wrap64 (by omega) (by omega)) ?_
        refine RW.assign rfl rfl ?_
        refine RW.nil ?_
        -- mq: loopend
        refine EX.lpN (i + 1, v18) (by dsimp only; omega) (by dsimp only; omega) (by repeat (first | exact Sub.nil | refine Sub.cons (by rfl) ?_)) (fun w' hw' => ?_)
        dsimp only
        rw [hg, growW, if_pos rfl, Enc.all_snoc EStr, List.length_append]
        exact hw'
      · skip
        have hc32 : c ≠ 32 := fun e => h2 (by rw [e]; rfl)
        obtain ⟨I, l, hIl⟩ : ∃ I l, fullP 32 (s.take i) = I ++ [l] := by
          rcases List.eq_nil_or_concat (fullP 32 (s.take i)) with h | ⟨I, l, h⟩
          · exact absurd h (fullP_ne 32 _)
          · exact ⟨I, l, by rw [h, List.concat_eq_append]⟩
        have hlm : l.length ≤ i := by
          have := (full_mem 32 (s.take i) l (by rw [hIl]; simp)).2
          omega
        rw [hIl] at hfl hpos hcap4 hg ⊢
        rw [growW, if_neg hc32, List.dropLast_concat, List.getLastD_concat] at hg
        have hll : (I ++ [l]).length = I.length + 1 := by simp
        have hlast : (I ++ [l])[I.length]? = some l := by simp
        have hset : (EStr.all (I ++ [l])).set I.length (.string (bs (l ++ [c]))) = EStr.all (I ++ [l ++ [c]]) := by
          have := EStr.all_set (j := 0) (a' := l ++ [c]) (v := .string (bs (l ++ [c]))) hlast (by decide) rfl
          rw [show I.length * EStr.sz + 0 = I.length from Nat.mul_one _, List.set_append_right _ _ (Nat.le_refl _), Nat.sub_self] at this
          exact this
        have hsl : (s.take (i + 1)).drop i = [c] := by
          rw [List.drop_take, show i + 1 - i = 1 by omega, List.drop_eq_getElem_cons (by omega), (List.getElem?_eq_some_iff.1 hc).2]
          rfl
        have hsll : ((s.take (i + 1)).drop i).length = 1 := by rw [hsl]; rfl
        -- mq: region
        refine CW.drawU [0, 1, 2, 3, 4, 5, 6, 7, 8, 9, 10, 11, 12, 13, 14, 15, 16] 1 [[(17, true, [])]] (SH w [] [own 9 1 (.slice (some ⟨g4, 0, none⟩) (I ++ [l]).length c4) (I ++ [l]).length (EStr.all (I ++ [l]))]) mixed (by kernel_rfl) (fun _ hw => hw.drew) (fun _ h => (by first | trivial | exact h | exact h.ch | exact (h.rem Rem.head).ch | exact ((h.rem Rem.head).rem Rem.head).ch | exact (((h.rem Rem.head).rem Rem.head).rem Rem.head).ch)) ?_
        refine QuP.cons rfl (fun wq hq => (RW.move rfl rfl RW.jn)) ?_
        refine QuP.cons rfl (fun wq hq => (RW.move rfl rfl RW.jn)) ?_
        refine QuP.cons rfl (fun wq hq => (RW.lenSl Tryd.underlying33 rfl rfl RW.jn)) ?_
        refine QuP.cons rfl (fun wq hq => (RW.sub_ rfl rfl rfl (wrap64 (by omega) (by omega)) RW.jn)) ?_
        refine QuP.cons rfl (fun wq hq => (RW.move rfl rfl RW.jn)) ?_
        refine QuP.cons rfl (fun wq hq => (RW.move rfl rfl RW.jn)) ?_
        refine QuP.cons rfl (fun wq hq => (RW.lenSl Tryd.underlying33 rfl rfl RW.jn)) ?_
        refine QuP.cons rfl (fun wq hq => (RW.sub_ rfl rfl rfl (wrap64 (by omega) (by omega)) RW.jn)) ?_
        refine QuP.cons rfl (fun wq hq => (RW.ixAddr (q := I.length) sl33 rfl rfl rfl (by first | rfl | assumption) (by omega) (by omega) RW.jn)) ?_
        refine QuP.cons rfl (fun wq hq => (RW.load1 sc9 rfl rfl (fun w1 e1 => by subst e1; exact ((hq.own_at (E := EStr) (L := I ++ [l]) Has.head (k := I.length) (a := l) hlast 0 _ rfl))) RW.jn)) ?_
        refine QuP.cons rfl (fun wq hq => (RW.move rfl rfl RW.jn)) ?_
        refine QuP.cons rfl (fun wq hq => (RW.move rfl rfl RW.jn)) ?_
        refine QuP.cons rfl (fun wq hq => (RW.move rfl rfl RW.jn)) ?_
        refine QuP.cons rfl (fun wq hq => (RW.add rfl rfl rfl (wrap64 (by omega) (by omega)) RW.jn)) ?_
        refine QuP.cons rfl (fun wq hq => (RW.sliceStrLH i (i + 1) Tryd.underlying9 rfl rfl rfl rfl (by first | rfl | omega) (by first | rfl | omega) (by omega) (by first | omega | (simp; done) | (simp; omega)) RW.jn)) ?_
        refine QuP.cons rfl (fun wq hq => (RW.catS rfl rfl rfl (by first | omega | (simp only [List.length_append, List.length_cons, List.length_nil]; omega)) RW.jn)) ?_
        refine QuP.cons rfl (fun wq hq => (RW.ixAddr (q := I.length) sl33 rfl rfl rfl (by first | rfl | assumption) (by omega) (by omega) RW.jn)) ?_
        refine QuP.nil ?_
        refine UW.step [_] rfl (List.forall_mem_cons.2 ⟨?_, by simp⟩)
        refine RW.storeOwn1 (o := I.length) sc9 rfl rfl (by first | exact Upd.head | exact Upd.tail Upd.head | exact Upd.tail (Upd.tail Upd.head) | exact Upd.tail (Upd.tail (Upd.tail Upd.head)) | exact Upd.tail (Upd.tail (Upd.tail (Upd.tail Upd.head))) | exact Upd.tail (Upd.tail (Upd.tail (Upd.tail (Upd.tail Upd.head)))) | exact Upd.tail (Upd.tail (Upd.tail (Upd.tail (Upd.tail (Upd.tail Upd.head)))))) (by rw [Addr.add_lit]; simp) rfl (by rw [Enc.all_length, hll]; show I.length < (I.length + 1) * 1; omega) ?_
        refine RW.st (fun _ => True) (fun _ _ => .inl rfl) (fun _ h => trivial) ?_
        refine QuP.nil ?_
        refine UW.nil (EX.bkN (EX.seq (CW.region ?_)))
        refine RW.move rfl rfl ?_
        refine RW.add rfl rfl rfl (wrap64 (by omega) (by omega)) ?_
        refine RW.assign rfl rfl ?_
        refine RW.nil ?_
        -- mq: loopend
        refine EX.lpN (i + 1, .slice (some ⟨g4, 0, none⟩) (I ++ [l]).length c4) (by dsimp only; omega) (by dsimp only; omega) (by repeat (first | exact Sub.nil | refine Sub.cons (by rfl) ?_)) (fun w' hw' => ?_)
        dsimp only
        rw [hg, show (I ++ [l ++ [c]]).length = (I ++ [l]).length by simp, ← hset, ← hsl]
        exact hw'
    · skip
      have hil : i = s.length := by omega
      subst hil
      rw [List.take_length]
      refine CW.exit (EX.seqE (EX.lpE (EX.bkE (EX.seq (CW.seq (CW.region ?_))))))
      refine RW.move rfl rfl ?_
      refine RW.assign rfl rfl ?_
      refine RW.nil (EX.seq (CW.ret ?_))
      refine EX.fin1 Tryd.results42 rfl (fun wz hw => ?_)
      -- mq: done
      exact RetSl.of_own (E := EStr) hw.ext (hw.has Has.head) rfl (fun k hk => Nat.le_of_not_lt fun hlt => by have := hw.cov k (by simp [feet, own, hk]) hlt; simp at this)
end Go.Proofs.YtnkdabjahmjdoaaDoor.Mq

namespace Go.Proofs.YtnkdabjahmjdoaaDoor.Mq
open Go Go.RowKit Go.Proofs

def addU (a b : UInt8) (u k : Nat) : Nat := u + (if a = hexDig k then 16 * k else 0) + (if b = hexDig k then k else 0)
def pairK (a b : UInt8) : Nat → Nat
  | 0 => 0
  | k + 1 => addU a b (pairK a b k) k
theorem pairK_le (a b : UInt8) : ∀ k, k ≤ 16 → pairK a b k ≤ 300 * k
  | 0, _ => Nat.le_refl _
  | k + 1, h => by
    have ih := pairK_le a b k (by omega)
    show addU a b (pairK a b k) k ≤ _
    unfold addU
    split <;> split <;> omega
theorem pairK_one : ∀ p, p < 16 → ∀ q, q < 16 → pairK (hexDig p) (hexDig q) 16 = 16 * p + q := by decide +kernel
def pairsU : List UInt8 → List UInt8
  | a :: b :: r => UInt8.ofNat (pairK a b 16) :: pairsU r
  | _ => []
def bytesU (x : List UInt8) : List UInt8 := pairsU (x.drop 1)
theorem pairsU_hex : ∀ d : List UInt8, pairsU (hexP d) = d
  | [] => rfl
  | c :: d => by
    have hc := UInt8.toNat_lt c
    show UInt8.ofNat (pairK (hexDig (c.toNat / 16)) (hexDig (c.toNat % 16)) 16) :: pairsU (hexP d) = _
    rw [pairK_one _ (by omega) _ (by omega), pairsU_hex d, show 16 * (c.toNat / 16) + c.toNat % 16 = c.toNat by omega]
    congr 1
    exact UInt8.ofNat_toNat
theorem bytesU_hex (d : List UInt8) : bytesU (hexT d) = d := pairsU_hex d
theorem pairsU_len : ∀ r : List UInt8, 2 * (pairsU r).length ≤ r.length
  | [] => Nat.le_refl _
  | [_] => Nat.zero_le _
  | a :: b :: r => by
    have := pairsU_len r
    show 2 * (pairsU r).length.succ ≤ _
    simp only [List.length_cons]; omega
theorem hexDig_u8 (c : UInt8) (k : Nat) : decide ((c.toNat : Int) = ((hexDig k).toNat : Int)) = decide (c = hexDig k) := by
  rw [decide_eq_decide]
  constructor
  · intro h; exact UInt8.toNat_inj.1 (by omega)
  · rintro rfl; rfl
theorem bytes31_c (w : World) (x : List UInt8) (hx : x.length ≤ 1000000) :
    Calls Tryd.prog 45 [.string (bs x)].toArray w (fun e w' => e = .returned (.string (bs (bytesU x))) ∧ Ext [] w w') := by
  refine calls (n := 48) Tryd.func45 rfl Tryd.ntmps45 rfl ?_
  refine CW.sub (H' := SH w [] []) ?_ (Sub.refl _) (fun x hx => SH.start' _ _ hx)
  have hrl : (x.drop 1).length = x.length - 1 := List.length_drop
  have hat : ∀ k c, (x.drop 1)[k]? = some c → x[1 + k]? = some c := fun k c h => by rw [List.getElem?_drop] at h; exact h
  have hbu : bytesU x = pairsU (x.drop 1) := rfl
  generalize x.drop 1 = r at *
  refine CW.seq (CW.region ?_)
  refine RW.assign rfl rfl ?_
  refine RW.nil (EX.seq (CW.seq (CW.region ?_)))
  refine RW.assign rfl rfl ?_
  refine RW.nil (EX.seq (CW.seq ?_))
  -- mq: region
  refine CW.ownNil 5 1 ?_
  refine CW.region ?_
  refine RW.assign rfl rfl ?_
  refine RW.nil (EX.seq (CW.seq (CW.seq (CW.region ?_))))
  refine RW.assign rfl rfl ?_
  refine RW.nil (EX.seq (CW.block ?_))
  -- mq: loop
  refine CW.loop (ι := Nat × Value × List UInt8) (fun t => [(0, .string (bs x)), (3, t.2.1), (4, .string (bs hexL)), (5, .int .i64 ((1 + 2 * t.1 : Nat) : Int))]) (fun t => SH w [] [own 5 1 t.2.1 t.2.2.length (EU8.all t.2.2)]) (fun t => 2 * t.1 ≤ r.length ∧ t.2.2.length = t.1 ∧ pairsU r = t.2.2 ++ pairsU (r.drop (2 * t.1))) (fun t => r.length - 2 * t.1) ?_ ?_
  · exact fun w' hw' => ⟨(0, _, []), ⟨Nat.zero_le _, rfl, rfl⟩, (by repeat (first | exact Sub.nil | refine Sub.cons (by rfl) ?_)), hw'⟩
  · rintro ⟨j, v, O⟩ ⟨hj, hO, hsp⟩
    dsimp only at hj hO hsp ⊢
    refine CW.seq (CW.seq (CW.region ?_))
    refine RW.move rfl rfl ?_
    refine RW.add rfl rfl rfl (wrap64 (by omega) (by omega)) ?_
    refine RW.move rfl rfl ?_
    refine RW.lenS Tryd.underlying9 rfl rfl ?_
    refine RW.lss rfl rfl rfl ?_
    refine RW.nil (EX.seq ?_)
    -- mq: cond
    first | refine CW.condD rfl (fun hlt => ?_) (fun hlt => ?_) | refine CW.cond rfl (fun hlt => ?_) (fun hlt => ?_)
    · skip
      obtain ⟨a, ha⟩ : ∃ a, r[2 * j]? = some a := ⟨r[2 * j]'(by omega), List.getElem?_eq_getElem _⟩
      obtain ⟨b, hb⟩ : ∃ b, r[2 * j + 1]? = some b := ⟨r[2 * j + 1]'(by omega), List.getElem?_eq_getElem _⟩
      have hxa := hat _ _ ha
      have hxb : x[1 + 2 * j + 1]? = some b := hat _ _ hb
      have ha8 := UInt8.toNat_lt a
      have hb8 := UInt8.toNat_lt b
      have hd : r.drop (2 * j) = a :: b :: r.drop (2 * (j + 1)) := by
        rw [List.drop_eq_getElem_cons (by omega), (List.getElem?_eq_some_iff.1 ha).2, List.drop_eq_getElem_cons (by omega), (List.getElem?_eq_some_iff.1 hb).2]
        rfl
      rw [hd] at hsp
      refine CW.skip (EX.seq (CW.seq (CW.block (CW.seq (CW.region ?_)))))
      refine RW.assign rfl rfl ?_
      refine RW.nil (EX.seq (CW.seq (CW.seq (CW.region ?_))))
      refine RW.assign rfl rfl ?_
      refine RW.nil (EX.seq (CW.block ?_))
      -- mq: loop
      refine CW.loop (ι := Nat) (fun k => [(0, .string (bs x)), (3, v), (4, .string (bs hexL)), (5, .int .i64 ((1 + 2 * j : Nat) : Int)), (6, .int .i64 ((pairK a b k : Nat) : Int)), (7, .int .i64 (k : Int))]) (fun _ => SH w [] [own 5 1 v O.length (EU8.all O)]) (fun k => k ≤ 16) (fun k => 16 - k) ?_ ?_
      · exact fun w' hw' => ⟨0, Nat.zero_le _, (by repeat (first | exact Sub.nil | refine Sub.cons (by rfl) ?_)), hw'⟩
      · intro k hk
        have hpk := pairK_le a b k hk
        refine CW.seq (CW.seq (CW.region ?_))
        refine RW.move rfl rfl ?_
        refine RW.lss rfl rfl rfl ?_
        refine RW.nil (EX.seq ?_)
        -- mq: cond
        first | refine CW.condD rfl (fun hl2 => ?_) (fun hl2 => ?_) | refine CW.cond rfl (fun hl2 => ?_) (fun hl2 => ?_)
        · skip
          have hkx : hexL[k]? = some (hexDig k) := hexL_at k (by omega)
          have hxl : hexL.length = 16 := rfl
          have hstep : pairK a b (k + 1) = pairK a b k + (if a = hexDig k then 16 * k else 0) + (if b = hexDig k then k else 0) := rfl
          have hk8 := UInt8.toNat_lt (hexDig k)
          have hrb : ∀ X : Nat, X = pairK a b k + (if a = hexDig k then 16 * k else 0) → True := fun _ _ => trivial
          refine CW.skip (EX.seq (CW.seq (CW.block (CW.seq ?_))))
          -- mq: seq
          refine CW.join ([(0, .string (bs x)), (3, v), (4, .string (bs hexL)), (5, .int .i64 ((1 + 2 * j : Nat) : Int)), (6, .int .i64 ((pairK a b k + (if a = hexDig k then 16 * k else 0) : Nat) : Int)), (7, .int .i64 (k : Int))]) (SH w [] [own 5 1 v O.length (EU8.all O)]) ?_ ?_
          · skip
            refine CW.seq ?_
            refine CW.drawq mixed (by kernel_rfl) (fun _ hw => hw.drew) ?_
            refine DRq.cons rfl (RW.move rfl rfl RW.jn) ?_
            refine DRq.cons rfl (RW.move rfl rfl RW.jn) ?_
            refine DRq.cons rfl (RW.ixStr (q := 1 + 2 * j) Tryd.underlying9 rfl rfl rfl (by omega) hxa RW.jn) ?_
            refine DRq.cons rfl (RW.move rfl rfl RW.jn) ?_
            refine DRq.cons rfl (RW.move rfl rfl RW.jn) ?_
            refine DRq.cons rfl (RW.ixStr (q := k) Tryd.underlying9 rfl rfl rfl (by omega) hkx RW.jn) ?_
            refine DRq.cons rfl (RW.eqlI rfl rfl rfl RW.jn) ?_
            refine DRq.nil (EX.seq ?_)
            -- mq: cond
            first | refine CW.condD rfl (fun h5 => ?_) (fun h5 => ?_) | refine CW.cond rfl (fun h5 => ?_) (fun h5 => ?_)
            · skip
              rw [if_pos (show a = hexDig k from UInt8.toNat_inj.1 (by omega))]
              refine CW.region ?_
              refine RW.move rfl rfl ?_
              refine RW.move rfl rfl ?_
              refine RW.mul (r := ((16 * k : Nat) : Int)) rfl rfl rfl (by rw [wrap64 (by omega) (by omega)]; omega) ?_
              refine RW.add (r := ((pairK a b k + 16 * k : Nat) : Int)) rfl rfl rfl (by rw [wrap64 (by omega) (by omega)]; omega) ?_
              refine RW.assign rfl rfl ?_
              refine RW.nil ?_
              -- mq: joinend
              exact EX.jn (by repeat (first | exact Sub.nil | refine Sub.cons (by rfl) ?_)) (fun _ h => h)
            · skip
              rw [if_neg (show ¬ a = hexDig k from fun e => h5 (by rw [e]))]
              refine CW.skip ?_
              -- mq: joinend
              exact EX.jn (by repeat (first | exact Sub.nil | refine Sub.cons (by rfl) ?_)) (fun _ h => h)
          · skip
            have hmid : pairK a b k + (if a = hexDig k then 16 * k else 0) ≤ 300 * k + 240 := by split <;> omega
            refine EX.seq (CW.seq ?_)
            -- mq: region
            refine CW.drawq mixed (by kernel_rfl) (fun _ hw => hw.drew) ?_
            refine DRq.cons rfl (RW.move rfl rfl RW.jn) ?_
            refine DRq.cons rfl (RW.move rfl rfl RW.jn) ?_
            refine DRq.cons rfl (RW.add rfl rfl rfl (wrap64 (by omega) (by omega)) RW.jn) ?_
            refine DRq.cons rfl (RW.ixStr (q := 1 + 2 * j + 1) Tryd.underlying9 rfl rfl rfl (by omega) hxb RW.jn) ?_
            refine DRq.cons rfl (RW.move rfl rfl RW.jn) ?_
            refine DRq.cons rfl (RW.move rfl rfl RW.jn) ?_
            refine DRq.cons rfl (RW.ixStr (q := k) Tryd.underlying9 rfl rfl rfl (by omega) hkx RW.jn) ?_
            refine DRq.cons rfl (RW.eqlI rfl rfl rfl RW.jn) ?_
            refine DRq.nil (EX.seq ?_)
            -- mq: cond
            first | refine CW.condD rfl (fun h6 => ?_) (fun h6 => ?_) | refine CW.cond rfl (fun h6 => ?_) (fun h6 => ?_)
            · skip
              rw [if_pos (show b = hexDig k from UInt8.toNat_inj.1 (by omega))] at hstep
              refine CW.region ?_
              refine RW.move rfl rfl ?_
              refine RW.move rfl rfl ?_
              refine RW.add (r := ((pairK a b (k + 1) : Nat) : Int)) rfl rfl rfl (by rw [wrap64 (by omega) (by omega)]; omega) ?_
              refine RW.assign rfl rfl ?_
              refine RW.nil (EX.bkN (EX.seq (CW.region ?_)))
              refine RW.move rfl rfl ?_
              refine RW.add rfl rfl rfl (wrap64 (by omega) (by omega)) ?_
              refine RW.assign rfl rfl ?_
              refine RW.nil ?_
              -- mq: loopend
              exact EX.lpN (k + 1) (by omega) (by omega) (by repeat (first | exact Sub.nil | refine Sub.cons (by rfl) ?_)) (fun w' hw' => hw')
            · skip
              rw [if_neg (show ¬ b = hexDig k from fun e => h6 (by rw [e]))] at hstep
              rw [show pairK a b k + (if a = hexDig k then 16 * k else 0) = pairK a b (k + 1) by omega]
              refine CW.skip (EX.bkN (EX.seq (CW.region ?_)))
              refine RW.move rfl rfl ?_
              refine RW.add rfl rfl rfl (wrap64 (by omega) (by omega)) ?_
              refine RW.assign rfl rfl ?_
              refine RW.nil ?_
              -- mq: loopend
              exact EX.lpN (k + 1) (by omega) (by omega) (by repeat (first | exact Sub.nil | refine Sub.cons (by rfl) ?_)) (fun w' hw' => hw')
        · skip
          obtain rfl : k = 16 := by omega
          refine CW.exit (EX.seqE (EX.lpE (EX.bkE (EX.seq ?_))))
          -- mq: region
          refine CW.region ?_
          refine RW.move rfl rfl ?_
          refine RW.move rfl rfl ?_
          refine RW.convI (r := (((UInt8.ofNat (pairK a b 16)).toNat : Nat) : Int)) rfl rfl Tryd.underlying3 Tryd.underlying5 (by rw [UInt8.toNat_ofNat', IntKind.wrap_u8]; omega) ?_
          refine RW.buildSlc sl53 rfl rfl rfl rfl (fun g44 hg44 hf44 => ?_)
          refine RW.append1 sl53 rfl rfl rfl (by first | exact Rem.head | exact Rem.tail Rem.head | exact Rem.tail (Rem.tail Rem.head) | exact Rem.tail (Rem.tail (Rem.tail Rem.head)) | exact Rem.tail (Rem.tail (Rem.tail (Rem.tail Rem.head))) | exact Rem.tail (Rem.tail (Rem.tail (Rem.tail (Rem.tail Rem.head)))) | exact Rem.tail (Rem.tail (Rem.tail (Rem.tail (Rem.tail (Rem.tail Rem.head)))))) (fun _ => by first | exact Upd.head | exact Upd.tail Upd.head | exact Upd.tail (Upd.tail Upd.head) | exact Upd.tail (Upd.tail (Upd.tail Upd.head)) | exact Upd.tail (Upd.tail (Upd.tail (Upd.tail Upd.head))) | exact Upd.tail (Upd.tail (Upd.tail (Upd.tail (Upd.tail Upd.head)))) | exact Upd.tail (Upd.tail (Upd.tail (Upd.tail (Upd.tail (Upd.tail Upd.head)))))) rfl (by repeat (first | exact Ones.nil | exact Enc.ones _ _ | refine Ones.cons rfl ?_)) (by simp only [maxLen]; omega) (by omega) (fun v45 hv45 => ?_)
          refine RW.assign rfl rfl ?_
          refine RW.nil (EX.bkN (EX.seq (CW.region ?_)))
          refine RW.move rfl rfl ?_
          refine RW.add rfl rfl rfl (wrap64 (by omega) (by omega)) ?_
          refine RW.assign rfl rfl ?_
          refine RW.nil ?_
          -- mq: loopend
          refine EX.lpN (j + 1, v45, O ++ [UInt8.ofNat (pairK a b 16)]) ⟨by dsimp only; omega, by simp; omega, by rw [hsp]; simp [pairsU]⟩ (by dsimp only; omega) (by repeat (first | exact Sub.nil | refine Sub.cons (by rfl) ?_)) (fun w' hw' => ?_)
          dsimp only
          rw [Enc.all_snoc EU8, List.length_append]
          exact hw'
    · skip
      have hend : pairsU (r.drop (2 * j)) = [] := by
        have h1 := pairsU_len (r.drop (2 * j))
        rw [List.length_drop] at h1
        exact List.length_eq_zero_iff.1 (by omega)
      rw [hend, List.append_nil] at hsp
      refine CW.formOwn (v := v) Has.head (fun A4 c4 hv4 hcap4 hmax4 hlen4 hg4 => ?_)
      subst hv4
      refine CW.exit (EX.seqE (EX.lpE (EX.bkE (EX.seq (CW.seq (CW.region ?_))))))
      refine RW.move rfl rfl ?_
      -- mq: op 1: ('Op.convert', '53', '9', ('Operand.tmp', '46')) -> slot 47 ("ref.go:107")
      refine RW.bytesStr (s := O) (F := fun k => (Value.slice A4 O.length c4).ownBlock = some k) Tryd.underlying53 Tryd.underlying5 Tryd.underlying9 rfl rfl (fun w' hw' => ?_) ?_
      · obtain ⟨A6, c6, he6, hrd6⟩ := Rd.of_own (E := EU8) (hw'.has Has.head) rfl
        cases he6
        exact hrd6
      refine RW.assign rfl rfl ?_
      refine RW.nil (EX.seq (CW.ret ?_))
      refine EX.fin1 Tryd.results45 rfl (fun wz hw => ?_)
      -- mq: done
      exact ⟨by rw [hbu, hsp], hw.ext⟩
end Go.Proofs.YtnkdabjahmjdoaaDoor.Mq

namespace Go.Proofs.YtnkdabjahmjdoaaDoor.Mq
open Go Go.RowKit Go.Proofs

def phU (x : List UInt8) : Nat → Int
  | 0 => -1
  | k + 1 => if x = phaseW (k : Int) then (k : Int) else phU x k
def posU (x : List UInt8) : Int := IntKind.i64.wrap (numU x : Int)
def codeU (x : List UInt8) : Int := if x = [45] then 0 else if x.head? = some 45 then IntKind.i64.wrap (-posU x) else posU x
theorem phU_of {n : Int} (hn : 0 ≤ n ∧ n ≤ 4) : phU (phaseW n) 5 = n := by
  rcases (show n = 0 ∨ n = 1 ∨ n = 2 ∨ n = 3 ∨ n = 4 by omega) with rfl | rfl | rfl | rfl | rfl <;> decide
theorem wrapIn (z : Int) : In64 (IntKind.i64.wrap z) := by
  unfold In64
  rw [IntKind.wrap_i64]
  omega
theorem posU_in (x : List UInt8) : In64 (posU x) := wrapIn _
theorem codeU_in (x : List UInt8) : In64 (codeU x) := by
  unfold codeU
  split
  · decide
  · split
    · exact wrapIn _
    · exact wrapIn _
theorem rowU_in (x : List UInt8) : In64 (rowU x) := by
  unfold rowU In64
  split <;> omega
theorem rowU_of {r : Int} (h : 0 ≤ r ∧ r ≤ 1099511627776) : rowU (Lib.itoa r) = r := by
  rw [itoa_pos h.1, rowU, numU_dec (by omega), if_neg (by omega)]
  omega
theorem codeU_of {n : Int} {has : Bool} (hn : In64 n) (hz : has = true ∨ n = 0) : codeU (codeW has n) = n := by
  unfold In64 at hn
  cases has with
  | false =>
    rcases hz with h | h
    · cases h
    · rw [h]; rfl
  | true =>
    unfold codeU codeW
    rw [if_pos rfl, if_neg (itoa_dash n)]
    by_cases h0 : n < 0
    · rw [itoa_lt h0, if_pos (show (45 :: Lib.decDigits n.natAbs).head? = some 45 from rfl), posU, numU_neg (by omega), IntKind.wrap_i64, IntKind.wrap_i64]
      omega
    · rw [itoa_pos (by omega), if_neg (dec_head45 _), posU, numU_dec (by omega), IntKind.wrap_i64]
      omega
def guessB (x1 x2 x3 x4 y1 y2 y3 y4 y5 y6 y7 y8 y9 y10 x15 x16 : List UInt8) : BlkV :=
  ⟨numU x1, phU x2 5, rowU y1, rowU y2, rowU y3, rowU y4, rowU y5, rowU y6, rowU y7, rowU y8, rowU y9, rowU y10, codeU x4, decide (x4 ≠ [45]), decide (x3 = [99, 117, 116]), bytesU x15, bytesU x16⟩
theorem guess_wf (x1 x2 x3 x4 y1 y2 y3 y4 y5 y6 y7 y8 y9 y10 x15 x16 : List UInt8) : (guessB x1 x2 x3 x4 y1 y2 y3 y4 y5 y6 y7 y8 y9 y10 x15 x16).Wf := by
  refine ⟨numU_lt _, codeU_in _, fun p hp => ?_⟩
  unfold BlkV.pos guessB at hp
  simp only [List.mem_cons, List.not_mem_nil, or_false] at hp
  rcases hp with rfl | rfl | rfl | rfl | rfl <;> exact ⟨rowU_in _, rowU_in _⟩
theorem guess_of {c : BlkV} (hc : c.Wf) (ht : toldB c = true) {x0 x1 x2 x3 x4 y1 y2 y3 y4 y5 y6 y7 y8 y9 y10 x15 x16 : List UInt8} (hw : wordsF c = [x0, x1, x2, x3, x4, y1, y2, y3, y4, y5, y6, y7, y8, y9, y10, x15, x16]) : guessB x1 x2 x3 x4 y1 y2 y3 y4 y5 y6 y7 y8 y9 y10 x15 x16 = c := by
  obtain ⟨a1, a2, -, -, a5⟩ := toldB_iff.1 ht
  have hid := hc.id
  have hcode := hc.code
  obtain ⟨c01, c02, c03, c04, c05, c06, c07, c08, c09, c10, c11, c12, c13, c14, c15, c16, c17⟩ := c
  dsimp only at a1 a5 hid hcode
  simp only [wordsF, posW, BlkV.pos, List.flatMap_cons, List.flatMap_nil, List.cons_append, List.nil_append, List.append_nil, List.cons.injEq, and_true] at hw
  obtain ⟨-, rfl, rfl, rfl, rfl, rfl, rfl, rfl, rfl, rfl, rfl, rfl, rfl, rfl, rfl, rfl, rfl⟩ := hw
  have hp : ∀ r c : Int, rightP (r, c) = true → rowU (Lib.itoa r) = r ∧ rowU (Lib.itoa c) = c := fun r c h => by
    have h' := of_decide_eq_true h
    exact ⟨rowU_of ⟨h'.1, h'.2.1⟩, rowU_of ⟨h'.2.2.1, h'.2.2.2⟩⟩
  obtain ⟨p1, p2⟩ := hp c03 c04 (a2 _ (by simp [BlkV.pos]))
  obtain ⟨p3, p4⟩ := hp c05 c06 (a2 _ (by simp [BlkV.pos]))
  obtain ⟨p5, p6⟩ := hp c07 c08 (a2 _ (by simp [BlkV.pos]))
  obtain ⟨p7, p8⟩ := hp c09 c10 (a2 _ (by simp [BlkV.pos]))
  obtain ⟨p9, p10⟩ := hp c11 c12 (a2 _ (by simp [BlkV.pos]))
  have hh : decide (codeW c14 c13 ≠ [45]) = c14 := by
    cases c14 with
    | false => rfl
    | true => exact decide_eq_true (itoa_dash c13)
  have hk : decide (cutW c15 = [99, 117, 116]) = c15 := by cases c15 <;> decide
  unfold guessB
  rw [numU_dec hid, phU_of a1, p1, p2, p3, p4, p5, p6, p7, p8, p9, p10, codeU_of hcode a5, hh, hk, bytesU_hex, bytesU_hex]
theorem guess_law {s x1 x2 x3 x4 y1 y2 y3 y4 y5 y6 y7 y8 y9 y10 x15 x16 : List UInt8} (hs : fullP 32 s = [blockW, x1, x2, x3, x4, y1, y2, y3, y4, y5, y6, y7, y8, y9, y10, x15, x16]) :
    parseD s = if toldB (guessB x1 x2 x3 x4 y1 y2 y3 y4 y5 y6 y7 y8 y9 y10 x15 x16) = true ∧ lineF (guessB x1 x2 x3 x4 y1 y2 y3 y4 y5 y6 y7 y8 y9 y10 x15 x16) = s then (guessB x1 x2 x3 x4 y1 y2 y3 y4 y5 y6 y7 y8 y9 y10 x15 x16, 0) else (zeroB, 4) := by
  split
  · rename_i h
    exact parseD_some ⟨guess_wf .., h.1, h.2⟩
  · rename_i h
    refine parseD_none (by rw [hs]; rfl) ?_
    rintro ⟨c, hc⟩
    have e := guess_of hc.1 hc.2.1 ((isLine_words hc).symm.trans hs)
    rw [e] at h
    exact h ⟨hc.2.1, hc.2.2⟩
end Go.Proofs.YtnkdabjahmjdoaaDoor.Mq
