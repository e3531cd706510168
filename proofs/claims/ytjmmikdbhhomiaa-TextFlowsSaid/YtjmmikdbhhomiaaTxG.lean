/- text: great, awake -/
import Derived.Test.YtjmmikdbhhomiaaTxF
import Derived.Test.YtjmmikdbhhomiaaTx9
namespace Go.Proofs.Ytjmmikdbhhomiaa.Mq
open Go Go.RowKit Go.Proofs

theorem great_c (w : World) (F : Nat → Prop) (A : Option Addr) (n c : Nat) (rows : List RowL) (hr : RdRows w F A n c rows) (hn : n ≤ 140737488351232) (hsm : ∀ row ∈ rows, row.1.length ≤ 140737488351232) :
    Calls Try.prog 4 [.slice A n c].toArray w (RetA (fun v _ => ∃ b, v = .bool b ∧ (b = false → n + sumLen rows ≤ 600 ∧ ∀ row ∈ rows, ∀ x ∈ row.1, x.more.length ≤ 100)) w) := by
  have hl := hr.len
  refine calls (n := 38) Try.func4 rfl Try.ntmps4 rfl ?_
  refine CW.sub (H' := SH w [] []) ?_ (Sub.refl _) (fun x hx => SH.start' _ _ hx)
  refine CW.seq (CW.region ?_)
  refine RW.assign rfl rfl ?_
  refine RW.nil (EX.seq (CW.seq (CW.seq (CW.region ?_))))
  refine RW.assign rfl rfl ?_
  refine RW.nil (EX.seq (CW.block ?_))
  -- mq: loop
  refine CW.loop (ι := Nat) (fun i => [(3, .int .i64 (i : Int)), (0, .slice A n c)]) (fun _ => SH w [] []) (fun i => i ≤ n ∧ ∀ j row, j < i → rows[j]? = some row → ∀ k x, k < 1000 → row.1[k]? = some x → x.more.length ≤ 100) (fun i => n - i) ?_ ?_
  · exact fun w' hw' => ⟨0, ⟨Nat.zero_le _, fun j _ h => absurd h (Nat.not_lt_zero _)⟩, (by repeat (first | exact Sub.nil | refine Sub.cons (by rfl) ?_)), hw'⟩
  · rintro i ⟨hi, hall⟩
    refine CW.seq (CW.seq (CW.region ?_))
    refine RW.move rfl rfl ?_
    refine RW.move rfl rfl ?_
    refine RW.lenSl Try.underlying22 rfl rfl ?_
    refine RW.lss rfl rfl rfl ?_
    refine RW.nil (EX.seq ?_)
    -- mq: cond
    first | refine CW.condD rfl (fun hlt => ?_) (fun hlt => ?_) | refine CW.cond rfl (fun hlt => ?_) (fun hlt => ?_)
    · skip
      obtain ⟨row, hrow⟩ : ∃ row, rows[i]? = some row := ⟨rows[i]'(by omega), List.getElem?_eq_getElem _⟩
      obtain ⟨ad, B, m, d, hA, _, hcell, hrd⟩ := hr.at_ hrow
      have hm := hrd.len
      have hms := hsm row (List.mem_of_getElem? hrow)
      refine CW.skip (EX.seq (CW.seq (CW.block (CW.seq (CW.region ?_)))))
      refine RW.assign rfl rfl ?_
      refine RW.nil (EX.seq (CW.block ?_))
      -- mq: loop
      refine CW.loop (ι := Nat) (fun k => [(4, .int .i64 (k : Int)), (3, .int .i64 (i : Int)), (0, .slice A n c)]) (fun _ => SH w [] []) (fun k => k ≤ m ∧ ∀ q x, q < k → row.1[q]? = some x → x.more.length ≤ 100) (fun k => m - k) ?_ ?_
      · exact fun w' hw' => ⟨0, ⟨Nat.zero_le _, fun j _ h => absurd h (Nat.not_lt_zero _)⟩, (by repeat (first | exact Sub.nil | refine Sub.cons (by rfl) ?_)), hw'⟩
      · rintro k ⟨hk, hin⟩
        refine CW.seq (CW.seq (CW.region ?_))
        refine RW.move rfl rfl ?_
        refine RW.move rfl rfl ?_
        refine RW.move rfl rfl ?_
        refine RW.ixAddr (q := i) sl22 rfl rfl rfl (by first | rfl | assumption) (by omega) (by omega) ?_
        refine RW.fieldP fl31x0 rfl rfl ?_
        refine RW.load1 sc29 rfl rfl (fun w' hw' => hw'.base_cell (hcell 0 _ rfl) (by simp)) ?_
        refine RW.lenSl Try.underlying29 rfl rfl ?_
        refine RW.lss rfl rfl rfl ?_
        refine RW.move rfl rfl ?_
        -- mq: guard slot 19
        refine RW.casesB 19 rfl (fun h1 => ?_) (fun h1 => ?_)
        · skip
          have h1p := of_decide_eq_true h1
          refine RW.guardT rfl rfl h1 ?_
          refine RW.move rfl rfl ?_
          refine RW.guardT rfl rfl h1 ?_
          refine RW.lss rfl rfl rfl ?_
          refine RW.pickB rfl rfl h1 rfl ?_
          refine RW.nil (EX.seq ?_)
          -- mq: cond
          first | refine CW.condD rfl (fun h2 => ?_) (fun h2 => ?_) | refine CW.cond rfl (fun h2 => ?_) (fun h2 => ?_)
          · skip
            obtain ⟨y, hy⟩ : ∃ y, row.1[k]? = some y := ⟨row.1[k]'(by omega), List.getElem?_eq_getElem _⟩
            obtain ⟨bd, hBd, _, hyc⟩ := hrd.at_ hy
            refine CW.skip (EX.seq (CW.seq (CW.block (CW.seq (CW.region ?_)))))
            refine RW.move rfl rfl ?_
            refine RW.move rfl rfl ?_
            refine RW.ixAddr (q := i) sl22 rfl rfl rfl (by first | rfl | assumption) (by omega) (by omega) ?_
            refine RW.fieldP fl31x0 rfl rfl ?_
            refine RW.load1 sc29 rfl rfl (fun w' hw' => hw'.base_cell (hcell 0 _ rfl) (by simp)) ?_
            refine RW.move rfl rfl ?_
            refine RW.ixAddr (q := k) sl29 rfl rfl rfl (by first | rfl | assumption) (by omega) (by omega) ?_
            refine RW.fieldP fl37x1 rfl rfl ?_
            refine RW.load1 sc9 rfl rfl (fun w' hw' => hw'.base_cell (hyc 1 _ rfl) (by simp)) ?_
            refine RW.lenS Try.underlying9 rfl rfl ?_
            refine RW.gtr rfl rfl rfl ?_
            refine RW.nil (EX.seq ?_)
            -- mq: cond
            first | refine CW.condD rfl (fun h3 => ?_) (fun h3 => ?_) | refine CW.cond rfl (fun h3 => ?_) (fun h3 => ?_)
            · skip
              refine CW.seq (CW.region ?_)
              refine RW.assign rfl rfl ?_
              refine RW.nil (EX.seq (CW.ret (EX.bkR (EX.seqR (EX.lpR (EX.bkR (EX.bkR (EX.seqR (EX.lpR (EX.bkR (EX.seqR ?_)))))))))))
              refine EX.fin1 Try.results4 rfl (fun wz hw => ?_)
              -- mq: done
              exact ⟨_, rfl, hw.ext, _, rfl, fun e => by cases e⟩
            · skip
              refine CW.skip (EX.bkN (EX.seq (CW.region ?_)))
              refine RW.move rfl rfl ?_
              refine RW.add rfl rfl rfl (wrap64 (by omega) (by omega)) ?_
              refine RW.assign rfl rfl ?_
              refine RW.nil ?_
              -- mq: loopend
              refine EX.lpN (k + 1) ⟨by omega, fun q x hq hx => ?_⟩ (by omega) (by repeat (first | exact Sub.nil | refine Sub.cons (by rfl) ?_)) (fun w' hw' => hw')
              rcases Nat.lt_succ_iff_lt_or_eq.1 hq with h | rfl
              · exact hin q x h hx
              · rw [hy] at hx
                obtain rfl := Option.some.inj hx
                omega
          · skip
            refine CW.exit (EX.seqE (EX.lpE (EX.bkE (EX.bkN (EX.seq (CW.region ?_))))))
            refine RW.move rfl rfl ?_
            refine RW.add rfl rfl rfl (wrap64 (by omega) (by omega)) ?_
            refine RW.assign rfl rfl ?_
            refine RW.nil ?_
            -- mq: loopend
            refine EX.lpN (i + 1) ⟨by omega, fun j r hj hr' q x hq hx => ?_⟩ (by omega) (by repeat (first | exact Sub.nil | refine Sub.cons (by rfl) ?_)) (fun w' hw' => hw')
            rcases Nat.lt_succ_iff_lt_or_eq.1 hj with h | rfl
            · exact hall j r h hr' q x hq hx
            · rw [hrow] at hr'
              obtain rfl := Option.some.inj hr'
              exact hin q x (by omega) hx
        · skip
          have h1p := of_decide_eq_false h1
          refine RW.guardF rfl rfl rfl h1 ?_
          refine RW.guardF rfl rfl rfl h1 ?_
          refine RW.pickC rfl rfl h1 rfl ?_
          refine RW.nil (EX.seq ?_)
          -- mq: cond
          refine CW.condF rfl (rfl) ?_
          refine CW.exit (EX.seqE (EX.lpE (EX.bkE (EX.bkN (EX.seq (CW.region ?_))))))
          refine RW.move rfl rfl ?_
          refine RW.add rfl rfl rfl (wrap64 (by omega) (by omega)) ?_
          refine RW.assign rfl rfl ?_
          refine RW.nil ?_
          -- mq: loopend
          refine EX.lpN (i + 1) ⟨by omega, fun j r hj hr' q x hq hx => ?_⟩ (by omega) (by repeat (first | exact Sub.nil | refine Sub.cons (by rfl) ?_)) (fun w' hw' => hw')
          rcases Nat.lt_succ_iff_lt_or_eq.1 hj with h | rfl
          · exact hall j r h hr' q x hq hx
          · rw [hrow] at hr'
            obtain rfl := Option.some.inj hr'
            have hq2 := (List.getElem?_eq_some_iff.1 hx).1
            exact hin q x (by omega) hx
    · skip
      refine CW.exit (EX.seqE (EX.lpE (EX.bkE (EX.seq (CW.seq ?_)))))
      -- mq: region
      refine CW.region ?_
      refine RW.move rfl rfl ?_
      -- mq: at
      refine RW.call rfl ca10 rfl (fun w' hw' => Great_c w' _ A n c rows (hr.ext hw'.ext (by simp)) hn hsm) ?_
      refine RW.assign rfl rfl ?_
      refine RW.nil (EX.seq (CW.ret ?_))
      refine EX.fin1 Try.results4 rfl (fun wz hw => ?_)
      -- mq: done
      refine ⟨_, rfl, hw.ext, _, rfl, fun e => ?_⟩
      have hsz := of_decide_eq_false e
      refine ⟨by omega, fun row hrow x hx => ?_⟩
      obtain ⟨j, hj⟩ := List.getElem?_of_mem hrow
      obtain ⟨q, hq⟩ := List.getElem?_of_mem hx
      have hj2 := (List.getElem?_eq_some_iff.1 hj).1
      have hq2 := (List.getElem?_eq_some_iff.1 hq).1
      have hrl : row.1.length ≤ sumLen rows := mem_sumLen0 hrow
      exact hall j row (by omega) hj q x (by omega) hq
def cA (r : Int) : CellV := ⟨r, [], 0, ⟨0, 0, 0, 0, 0⟩⟩
def exA : List RowL := [([cA 97, cA 98], false), ([cA 99, cA 100], true), ([cA 101, cA 0], false)]
theorem exA1 : ofF exA ⟨0, 0⟩ ⟨3, 0⟩ = [97, 98, 99, 100, 10, 101, 10] := of_decide_eq_true (by kernel_rfl)
theorem exA2 : ofF exA ⟨0, 1⟩ ⟨1, 1⟩ = [98, 99] := of_decide_eq_true (by kernel_rfl)
theorem exA_more : ∀ row ∈ exA, ∀ x ∈ row.1, x.more.length ≤ 1000000 := by decide
theorem awake_c (w : World) : Calls Try.prog 5 #[] w (fun e w' => e = .returned (.bool true) ∧ Ext [] w w') := by
  refine calls (n := 27) Try.func5 rfl Try.ntmps5 rfl ?_
  refine CW.sub (H' := SH w [] []) ?_ (Sub.refl _) (fun x hx => SH.start' _ _ hx)
  refine CW.seq (CW.region ?_)
  refine RW.assign rfl rfl ?_
  refine RW.nil (EX.seq (CW.seq (CW.region ?_)))
  refine RW.buildS bu37 rfl rfl rfl ?_
  refine RW.buildS bu37 rfl rfl rfl ?_
  refine RW.buildSlc sl29 rfl rfl rfl rfl (fun g4 hg4 hf4 => ?_)
  refine RW.buildS bu31 rfl rfl rfl ?_
  refine RW.buildS bu37 rfl rfl rfl ?_
  refine RW.buildS bu37 rfl rfl rfl ?_
  refine RW.buildSlc sl29 rfl rfl rfl rfl (fun g8 hg8 hf8 => ?_)
  refine RW.buildS bu31 rfl rfl rfl ?_
  refine RW.buildS bu37 rfl rfl rfl ?_
  refine RW.buildS bu37 rfl rfl rfl ?_
  refine RW.buildSlc sl29 rfl rfl rfl rfl (fun g12 hg12 hf12 => ?_)
  refine RW.buildS bu31 rfl rfl rfl ?_
  refine RW.buildSlc sl22 rfl rfl rfl rfl (fun g14 hg14 hf14 => ?_)
  refine RW.assign rfl rfl ?_
  refine RW.nil (EX.seq (CW.seq ?_))
  -- mq: region
  refine CW.sub (H' := fun x => Ext [] w x ∧ RdRows x (fun _ => True) (some ⟨g14, 0, none⟩) 3 3 exA) ?_ (Sub.refl _) (fun x hx => ?_)
  rotate_left
  · have h14 := Rd.of_blk (E := ERow) (L := [⟨some ⟨g4, 0, none⟩, 2, 2, false⟩, ⟨some ⟨g8, 0, none⟩, 2, 2, true⟩, ⟨some ⟨g12, 0, none⟩, 2, 2, false⟩]) (m := 3) hx (show Has _ (blk g14 (ERow.all _) 31) from Has.head) rfl (by simp only [maxLen]; decide)
    have h12 := Rd.of_blk (E := ECell) (L := [cA 101, cA 0]) (m := 2) hx (show Has _ (blk g12 (ECell.all _) 37) from Has.tail Has.head) rfl (by simp only [maxLen]; decide)
    have h8 := Rd.of_blk (E := ECell) (L := [cA 99, cA 100]) (m := 2) hx (show Has _ (blk g8 (ECell.all _) 37) from Has.tail (Has.tail Has.head)) rfl (by simp only [maxLen]; decide)
    have h4 := Rd.of_blk (E := ECell) (L := [cA 97, cA 98]) (m := 2) hx (show Has _ (blk g4 (ECell.all _) 37) from Has.tail (Has.tail (Has.tail Has.head))) rfl (by simp only [maxLen]; decide)
    refine ⟨hx.ext, _, h14.weak (fun _ _ => trivial), rfl, fun k r row hk hrow => ?_⟩
    match k with
    | 0 => cases hk; cases hrow; exact h4.weak (fun _ _ => trivial)
    | 1 => cases hk; cases hrow; exact h8.weak (fun _ _ => trivial)
    | 2 => cases hk; cases hrow; exact h12.weak (fun _ _ => trivial)
    | k + 3 => cases hk
  refine CW.fixH (fun w1 hw1 => ⟨_, _, SH.start w1, ?_⟩)
  obtain ⟨hx1, hr1⟩ := hw1
  refine CW.region ?_
  refine RW.move rfl rfl ?_
  refine RW.buildS bu44 rfl rfl rfl ?_
  refine RW.buildS bu44 rfl rfl rfl ?_
  refine RW.call rfl ca9 rfl (fun w' hw' => by have := Of_c w' _ _ 3 3 exA (hr1.ext hw'.ext (by simp)) ⟨0, 0⟩ ⟨3, 0⟩ (by omega) (by decide) (by decide) (by decide) (by decide) exA_more (by rw [exA1]; decide); rw [exA1] at this; exact this) ?_
  refine RW.eqlS rfl rfl rfl ?_
  refine RW.move rfl rfl ?_
  refine RW.guardT rfl rfl rfl ?_
  refine RW.move rfl rfl ?_
  refine RW.guardT rfl rfl rfl ?_
  refine RW.buildS bu44 rfl rfl rfl ?_
  refine RW.guardT rfl rfl rfl ?_
  refine RW.buildS bu44 rfl rfl rfl ?_
  refine RW.guardT rfl rfl rfl ?_
  refine RW.call rfl ca9 rfl (fun w' hw' => by have := Of_c w' _ _ 3 3 exA (hr1.ext hw'.ext (by simp)) ⟨0, 1⟩ ⟨1, 1⟩ (by omega) (by decide) (by decide) (by decide) (by decide) exA_more (by rw [exA2]; decide); rw [exA2] at this; exact this) ?_
  refine RW.guardT rfl rfl rfl ?_
  refine RW.eqlS rfl rfl rfl ?_
  refine RW.pickB rfl rfl rfl rfl ?_
  refine RW.assign rfl rfl ?_
  refine RW.nil (EX.seq (CW.ret ?_))
  refine EX.fin1 Try.results5 rfl (fun wz hw => ?_)
  -- mq: done
  exact ⟨rfl, hx1.trans0 hw.ext⟩
end Go.Proofs.Ytjmmikdbhhomiaa.Mq
