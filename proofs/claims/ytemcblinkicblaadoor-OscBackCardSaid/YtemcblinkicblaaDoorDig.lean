/- walk of the reference's Digits -/
import Derived.Test.YtemcblinkicblaaDoorItoa
namespace Go.Proofs.YtemcblinkicblaaDoor.Mq
open Go Go.RowKit Go.Proofs

theorem dec_small {u : Nat} (h : u < 10) : Lib.decDigits u = [UInt8.ofNat (48 + u)] := by rw [Lib.decDigits, dif_pos h]
theorem dec_big {u : Nat} (h : ¬ u < 10) : Lib.decDigits u = Lib.decDigits (u / 10) ++ [UInt8.ofNat (48 + u % 10)] := by rw [Lib.decDigits, dif_neg h]
theorem dec_len_le {u : Nat} (h : u ≤ 9223372036854775807) : (Lib.decDigits u).length ≤ 21 := by
  have := Lib.itoa_length_le (u : Int) (by omega) (by omega)
  rwa [Lib.itoa_nonneg] at this
/-- what stands ahead of the digits that are there -/
def digInv (n m : Nat) (s : List UInt8) : Prop := (s = [] ∧ m = n) ∨ (s ≠ [] ∧ (if m = 0 then s else Lib.decDigits m ++ s) = Lib.decDigits n)
theorem digInv_step {n m : Nat} {s : List UInt8} (h : digInv n m s) (hc : m ≠ 0 ∨ s = []) : digInv n (m / 10) (UInt8.ofNat (48 + m % 10) :: s) := by
  refine .inr ⟨by simp, ?_⟩
  rcases h with ⟨rfl, rfl⟩ | ⟨hs, h⟩
  · by_cases h1 : m < 10
    · rw [if_pos (by omega), dec_small h1, Nat.mod_eq_of_lt h1]
    · rw [if_neg (by omega), dec_big h1]
  · have hm : m ≠ 0 := by rcases hc with h | h; exact h; exact absurd h hs
    rw [if_neg hm] at h
    rw [← h]
    by_cases h1 : m < 10
    · rw [if_pos (by omega), dec_small h1, Nat.mod_eq_of_lt h1]; rfl
    · rw [if_neg (by omega), dec_big h1, List.append_assoc]; rfl
theorem digInv_len {n m : Nat} {s : List UInt8} (h : digInv n m s) (hn : n ≤ 9223372036854775807) : s.length ≤ 21 ∧ m ≤ 9223372036854775807 := by
  have hl := dec_len_le hn
  rcases h with ⟨rfl, rfl⟩ | ⟨hs, h⟩
  · exact ⟨by simp, hn⟩
  · split at h
    · rename_i h0; rw [h]; omega
    · refine ⟨?_, ?_⟩
      · rw [← h, List.length_append] at hl; omega
      · -- the digits of m stand ahead: m is no more than n
        rcases Nat.lt_or_ge 9223372036854775807 m with hm | hm
        · exfalso
          have h1 := congrArg numD h
          rw [numD_dec, numD, List.foldl_append] at h1
          have h2 : (Lib.decDigits m).foldl (fun (a : Nat) (c : UInt8) => 10 * a + (c.toNat - 48)) 0 = m := numD_dec m
          rw [h2] at h1
          have key : ∀ (l : List UInt8) (a : Nat), a ≤ l.foldl (fun (a : Nat) (c : UInt8) => 10 * a + (c.toNat - 48)) a := by
            intro l
            induction l with
            | nil => intro a; simp
            | cons c l ih => intro a; rw [List.foldl_cons]; exact Nat.le_trans (by omega) (ih _)
          have := key s m
          omega
        · exact hm
theorem refDigits_c (w : World) (n : Nat) (hn : n ≤ 9223372036854775807) :
    Calls Tryd.prog 38 [.int .i64 (n : Int)].toArray w (fun e w' => e = .returned (.string (bs (Lib.decDigits n))) ∧ Ext [] w w') := by
  refine calls (n := 21) Tryd.func38 rfl Tryd.ntmps38 rfl ?_
  refine CW.sub (H' := SH w [] []) ?_ (Sub.refl _) (fun x hx => SH.start' _ _ hx)
  refine CW.seq (CW.region ?_)
  refine RW.assign rfl rfl ?_
  refine RW.nil (EX.seq (CW.seq (CW.region ?_)))
  refine RW.assign rfl rfl ?_
  refine RW.nil (EX.seq (CW.seq (CW.block ?_)))
  -- mq: loop
  refine CW.loop (ι := Nat × List UInt8) (fun i => [(0, .int .i64 (i.1 : Int)), (3, .string (bs i.2))]) (fun _ => SH w [] []) (fun i => digInv n i.1 i.2) (fun i => if i.2 = [] then i.1 + 1 else i.1) ?_ ?_
  · exact fun w hw => ⟨(n, []), .inl ⟨rfl, rfl⟩, (by repeat (first | exact Sub.nil | refine Sub.cons (by rfl) ?_)), hw⟩
  · rintro ⟨m, s⟩ hi
    dsimp only at hi ⊢
    obtain ⟨hsl, hm⟩ := digInv_len hi hn
    have hconv : UInt8.ofNat (48 + m % 10) = UInt8.ofNat (48 + m % 10) := rfl
    have hcv : IntKind.u8.wrap (48 + (m : Int) % 10) = ((UInt8.ofNat (48 + m % 10)).toNat : Int) := by
      rw [wrapN8 (by omega) (by omega)]; simp; omega
    have hround : m ≠ 0 ∨ s = [] → (if (UInt8.ofNat (48 + m % 10) :: s) = [] then m / 10 + 1 else m / 10) < (if s = [] then m + 1 else m) := by
      intro hc
      rw [if_neg (by simp)]
      split
      · omega
      · rename_i h; rcases hc with h2 | h2
        · omega
        · exact absurd h2 h
    refine CW.seq (CW.seq (CW.region ?_))
    refine RW.move rfl rfl ?_
    refine RW.gtr rfl rfl rfl ?_
    refine RW.move rfl rfl ?_
    -- mq: guard slot 6
    refine RW.casesB 6 rfl (fun h1 => ?_) (fun h1 => ?_)
    · skip
      have h1p := of_decide_eq_true h1
      refine RW.guardF rfl rfl rfl h1 ?_
      refine RW.guardF rfl rfl rfl h1 ?_
      refine RW.pickB rfl rfl h1 rfl ?_
      refine RW.nil (EX.seq ?_)
      -- mq: cond
      refine CW.condT rfl (rfl) ?_
      have hc : m ≠ 0 ∨ s = [] := .inl (by omega)
      refine CW.skip (EX.seq (CW.block (CW.seq (CW.region ?_))))
      refine RW.move rfl rfl ?_
      refine RW.remN rfl rfl rfl (by omega) (by omega) ?_
      refine RW.add rfl rfl rfl (wrap64 (by omega) (by omega)) ?_
      refine RW.convI rfl rfl Tryd.underlying3 Tryd.underlying5 hcv ?_
      refine RW.buildSlc sl56 rfl rfl rfl rfl (fun g14 hg14 hf14 => ?_)
      -- mq: op 5: ('Op.convert', '56', '9', ('Operand.tmp', '14')) -> slot 15 ("ref.go:99")
      refine RW.bytesStr (s := [UInt8.ofNat (48 + m % 10)]) Tryd.underlying56 Tryd.underlying5 Tryd.underlying9 rfl rfl (fun w' hw' => Rd.of_blk (E := EU8) (L := [UInt8.ofNat (48 + m % 10)]) hw' Has.head rfl (by decide)) ?_
      refine RW.move rfl rfl ?_
      refine RW.catS rfl rfl rfl (by first | omega | (simp only [List.length_append, List.length_cons, List.length_nil]; omega)) ?_
      refine RW.assign rfl rfl ?_
      refine RW.nil (EX.seq (CW.region ?_))
      refine RW.move rfl rfl ?_
      refine RW.quoN rfl rfl rfl (by omega) (by omega) (by omega) ?_
      refine RW.assign rfl rfl ?_
      refine RW.nil (EX.bkN ?_)
      -- mq: loopend
      refine EX.lpN (m / 10, UInt8.ofNat (48 + m % 10) :: s) (digInv_step hi hc) (hround hc) (by repeat (first | exact Sub.nil | refine Sub.cons (by rfl) ?_)) (fun w' hw' => hw'.rem Rem.head)
    · skip
      have h1p := of_decide_eq_false h1
      refine RW.guardT rfl rfl h1 ?_
      refine RW.move rfl rfl ?_
      refine RW.guardT rfl rfl h1 ?_
      refine RW.eqlS rfl rfl rfl ?_
      refine RW.pickC rfl rfl h1 rfl ?_
      refine RW.nil (EX.seq ?_)
      -- mq: cond
      first | refine CW.condD rfl (fun h2 => ?_) (fun h2 => ?_) | refine CW.cond rfl (fun h2 => ?_) (fun h2 => ?_)
      · skip
        have hc : m ≠ 0 ∨ s = [] := .inr h2
        refine CW.skip (EX.seq (CW.block (CW.seq (CW.region ?_))))
        refine RW.move rfl rfl ?_
        refine RW.remN rfl rfl rfl (by omega) (by omega) ?_
        refine RW.add rfl rfl rfl (wrap64 (by omega) (by omega)) ?_
        refine RW.convI rfl rfl Tryd.underlying3 Tryd.underlying5 hcv ?_
        refine RW.buildSlc sl56 rfl rfl rfl rfl (fun g14 hg14 hf14 => ?_)
        -- mq: op 5: ('Op.convert', '56', '9', ('Operand.tmp', '14')) -> slot 15 ("ref.go:99")
        refine RW.bytesStr (s := [UInt8.ofNat (48 + m % 10)]) Tryd.underlying56 Tryd.underlying5 Tryd.underlying9 rfl rfl (fun w' hw' => Rd.of_blk (E := EU8) (L := [UInt8.ofNat (48 + m % 10)]) hw' Has.head rfl (by decide)) ?_
        refine RW.move rfl rfl ?_
        refine RW.catS rfl rfl rfl (by first | omega | (simp only [List.length_append, List.length_cons, List.length_nil]; omega)) ?_
        refine RW.assign rfl rfl ?_
        refine RW.nil (EX.seq (CW.region ?_))
        refine RW.move rfl rfl ?_
        refine RW.quoN rfl rfl rfl (by omega) (by omega) (by omega) ?_
        refine RW.assign rfl rfl ?_
        refine RW.nil (EX.bkN ?_)
        -- mq: loopend
        refine EX.lpN (m / 10, UInt8.ofNat (48 + m % 10) :: s) (digInv_step hi hc) (hround hc) (by repeat (first | exact Sub.nil | refine Sub.cons (by rfl) ?_)) (fun w' hw' => hw'.rem Rem.head)
      · skip
        refine CW.exit (EX.seqE (EX.lpE (EX.bkE (EX.seq (CW.seq (CW.region ?_))))))
        refine RW.move rfl rfl ?_
        refine RW.assign rfl rfl ?_
        refine RW.nil (EX.seq (CW.ret ?_))
        refine EX.fin1 Tryd.results38 rfl (fun wz hw => ?_)
        -- mq: done
        refine ⟨?_, hw.ext⟩
        have hm0 : m = 0 := by omega
        rcases hi with ⟨h, _⟩ | ⟨_, h⟩
        · exact absurd h h2
        · rw [if_pos hm0] at h; rw [h]
end Go.Proofs.YtemcblinkicblaaDoor.Mq
