/- tabs: walks of TabsHas, TabsNone, TabsSteps -/
import Derived.Test.YthfbdbahggklnaaDoorTb7
namespace Go.Proofs.YthfbdbahggklnaaDoor.Mq
open Go Go.RowKit Go.Proofs

def EU16 : Enc Nat := ⟨fun w => [.int .u16 (w : Int)], 1, fun _ => rfl, fun _ => by repeat (first | exact Ones.nil | refine Ones.cons rfl ?_)⟩
def colsF (cols : Nat) : Nat := 2 + cols % 999
theorem colsF_range (cols : Nat) : 2 ≤ colsF cols ∧ colsF cols ≤ 1000 := by unfold colsF; omega
theorem colsF_eq (cols : Nat) : (2 : Int) + (cols : Int) % 999 = (colsF cols : Int) := by unfold colsF; omega
def setsB (n : Nat) (l : List Nat) : List Bool := l.foldl (fun b (v : Nat) => withB b (v : Int) true) (sizeB [] n)
theorem setsB_snoc {n : Nat} {l : List Nat} {k v : Nat} (h : l[k]? = some v) : setsB n (l.take (k + 1)) = withB (setsB n (l.take k)) (v : Int) true := by
  rw [List.take_add_one, h, Option.toList_some, setsB, List.foldl_append]
  rfl
theorem setsB_len (n : Nat) (l : List Nat) : (setsB n l).length = n := by
  unfold setsB
  have key : ∀ (l : List Nat) (b : List Bool), (l.foldl (fun b (v : Nat) => withB b (v : Int) true) b).length = b.length := by
    intro l
    induction l with
    | nil => intro b; rfl
    | cons v l ih => intro b; rw [List.foldl_cons, ih, withB_len]
  rw [key, sizeB_len]
theorem hasB_first (n : Nat) (x : Int) : hasB (sizeB [] n) x = (decide (0 ≤ x) && (decide (x < (n : Int)) && decide (x % 8 = 0))) := by
  unfold hasB
  by_cases h0 : 0 ≤ x
  · rw [decide_eq_true h0, Bool.true_and, Bool.true_and]
    by_cases hx : x < (n : Int)
    · rw [gb_sizeB _ _ _ (by omega), if_neg (by simp), decide_eq_true hx, Bool.true_and]
      exact decide_eq_decide.2 (by omega)
    · rw [gb_ge (by rw [sizeB_len]; omega), decide_eq_false hx]; rfl
  · rw [decide_eq_false h0, Bool.false_and, Bool.false_and]
theorem hasB_with (bs : List Bool) (v : Nat) (x : Int) : hasB (withB bs (v : Int) true) x = (hasB bs x || (decide ((v : Int) = x) && decide (x < (bs.length : Int)))) := by
  unfold hasB
  by_cases h0 : 0 ≤ x
  · rw [decide_eq_true h0, Bool.true_and, Bool.true_and]
    rcases Nat.lt_or_ge x.toNat bs.length with h1 | h1
    · rw [gb_withB _ _ _ _ h1, decide_eq_true (show x < (bs.length : Int) by omega), Bool.and_true]
      by_cases e : (v : Int) = x
      · rw [if_pos (by omega), decide_eq_true e, Bool.or_true]
      · rw [if_neg (by omega), decide_eq_false e, Bool.or_false]
    · rw [gb_ge (by rw [withB_len]; exact h1), gb_ge h1, decide_eq_false (show ¬ x < (bs.length : Int) by omega), Bool.and_false]; rfl
  · rw [decide_eq_false h0, Bool.false_and, Bool.false_and, decide_eq_false (show ¬ (v : Int) = x by omega)]; rfl
theorem hasB_clear (bs : List Bool) (x : Int) : hasB (withB bs x false) x = false := by
  unfold hasB
  by_cases h0 : 0 ≤ x
  · rw [decide_eq_true h0, Bool.true_and]
    rcases Nat.lt_or_ge x.toNat bs.length with h1 | h1
    · rw [gb_withB _ _ _ _ h1, if_pos (by omega)]
    · exact gb_ge (by rw [withB_len]; exact h1)
  · rw [decide_eq_false h0, Bool.false_and]
theorem lawHas_c (w : World) (hg : Gt w) (cols : Nat) (hcols : cols < 65536) (F : Nat → Prop) (A : Option Addr) (m c : Nat) (l : List Nat) (hr : Rd EU16 w F A m c l) (hm : m ≤ 140737488351232) (hl16 : ∀ v ∈ l, v < 65536) (x : Int) (hx64 : -9223372036854775808 ≤ x ∧ x ≤ 9223372036854775807) :
    Calls Tryd.prog 3 [.int .u16 (cols : Int), .slice A m c, .int .i64 x].toArray w (fun e w' => e = .returned (.bool true) ∧ Ext [] w w') := by
  have hlen := hr.len
  refine calls (n := 87) Tryd.func3 rfl Tryd.ntmps3 rfl ?_
  refine CW.sub (H' := SH w [] []) ?_ (Sub.refl _) (fun x hx => SH.start' _ _ hx)
  refine CW.seq (CW.region ?_)
  refine RW.assign rfl rfl ?_
  refine RW.nil (EX.seq (CW.seq (CW.seq (CW.region ?_))))
  refine RW.move rfl rfl ?_
  refine RW.lenSl Tryd.underlying23 rfl rfl ?_
  refine RW.gtr rfl rfl rfl ?_
  refine RW.move rfl rfl ?_
  -- mq: guard slot 14
  refine RW.casesB 14 rfl (fun h1 => ?_) (fun h1 => ?_)
  · skip
    have h1p := of_decide_eq_true h1
    refine RW.guardF rfl rfl rfl h1 ?_
    refine RW.guardF rfl rfl rfl h1 ?_
    refine RW.pickB rfl rfl h1 rfl ?_
    refine RW.nil (EX.seq ?_)
    -- mq: cond
    refine CW.condT rfl (rfl) ?_
    refine CW.seq (CW.region ?_)
    refine RW.call rfl ca8 rfl (fun w' hw' => awake_c w' (hg.ext hw'.ext)) ?_
    refine RW.assign rfl rfl ?_
    refine RW.nil (EX.seq (CW.ret (EX.seqR ?_)))
    refine EX.fin1 Tryd.results3 rfl (fun wz hw => ?_)
    -- mq: done
    exact ⟨rfl, hw.ext⟩
  · skip
    have h1p := of_decide_eq_false h1
    refine RW.guardT rfl rfl h1 ?_
    refine RW.call rfl ca8 rfl (fun w' hw' => awake_c w' (hg.ext hw'.ext)) ?_
    refine RW.guardT rfl rfl h1 ?_
    refine RW.not_ rfl rfl ?_
    refine RW.pickC rfl rfl h1 rfl ?_
    refine RW.nil (EX.seq ?_)
    -- mq: cond
    refine CW.condF rfl (rfl) ?_
    refine CW.skip (EX.seq (CW.seq (CW.region ?_)))
    refine RW.move rfl rfl ?_
    refine RW.remN rfl rfl rfl (by omega) (by omega) ?_
    refine RW.convI rfl rfl Tryd.underlying22 Tryd.underlying3 (wrap64 (by omega) (by omega)) ?_
    refine RW.add rfl rfl rfl (wrap64 (by omega) (by omega)) ?_
    -- mq: at
    rw [colsF_eq]
    obtain ⟨n, hn⟩ : ∃ n, colsF cols = n := ⟨_, rfl⟩
    have hnr := colsF_range cols
    rw [hn] at hnr ⊢
    refine RW.callNew rfl ca9 rfl (fun w' _ => new_c w' n hnr) (fun s hs => ?_)
    obtain ⟨g, i⟩ := s
    dsimp only at hs ⊢
    refine RW.move rfl rfl ?_
    refine RW.extract rfl rfl rfl ?_
    refine RW.extract rfl rfl rfl ?_
    refine RW.assign rfl rfl ?_
    refine RW.assign rfl rfl ?_
    refine RW.nil (EX.seq (CW.seq (CW.seq (CW.region ?_))))
    refine RW.move rfl rfl ?_
    refine RW.neqI rfl rfl rfl ?_
    refine RW.move rfl rfl ?_
    refine RW.guardT rfl rfl rfl ?_
    refine RW.move rfl rfl ?_
    refine RW.guardT rfl rfl rfl ?_
    refine RW.eqlP Tryd.underlying25 rfl rfl rfl ?_
    refine RW.pickC rfl rfl rfl rfl ?_
    refine RW.nil (EX.seq ?_)
    -- mq: cond
    refine CW.condF rfl (rfl) ?_
    refine CW.skip (EX.seq (CW.seq ?_))
    -- mq: region
    refine CW.join ([(0, .int .u16 (cols : Int)), (1, .slice A m c), (2, .int .i64 x), (7, ptr g), (9, .bool (hasB (sizeB [] n) x))]) (SH w [] [stp g n i]) ?_ ?_
    · skip
      rw [hasB_first]
      refine CW.region ?_
      refine RW.move rfl rfl ?_
      refine RW.geq rfl rfl rfl ?_
      refine RW.move rfl rfl ?_
      -- mq: guard slot 35
      refine RW.casesB 35 rfl (fun h2 => ?_) (fun h2 => ?_)
      · skip
        have h2p := of_decide_eq_true h2
        refine RW.guardT rfl rfl h2 ?_
        refine RW.move rfl rfl ?_
        refine RW.guardT rfl rfl h2 ?_
        refine RW.move rfl rfl ?_
        refine RW.guardT rfl rfl h2 ?_
        refine RW.call rfl ca10 rfl (fun w' hw' => cols_n hs (hw'.has Has.head)) ?_
        refine RW.guardT rfl rfl h2 ?_
        refine RW.lss rfl rfl rfl ?_
        refine RW.pickB rfl rfl h2 rfl ?_
        refine RW.move rfl rfl ?_
        -- mq: guard slot 41
        refine RW.casesB 41 rfl (fun h3 => ?_) (fun h3 => ?_)
        · skip
          have h3p := of_decide_eq_true h3
          refine RW.guardT rfl rfl h3 ?_
          refine RW.move rfl rfl ?_
          refine RW.guardT rfl rfl h3 ?_
          refine RW.remN rfl rfl rfl (by omega) (by omega) ?_
          refine RW.guardT rfl rfl h3 ?_
          refine RW.eqlI rfl rfl rfl ?_
          refine RW.pickB rfl rfl h3 rfl ?_
          refine RW.assign rfl rfl ?_
          refine RW.nil ?_
          -- mq: joinend
          refine EX.jn (Sub.cons (by rfl) (Sub.cons (by rfl) (Sub.cons (by rfl) (Sub.cons (by rfl) (Sub.cons ?_ Sub.nil))))) (fun _ h => h)
          rw [h2, h3]
          rfl
        · skip
          have h3p := of_decide_eq_false h3
          refine RW.guardF rfl rfl rfl h3 ?_
          refine RW.guardF rfl rfl rfl h3 ?_
          refine RW.guardF rfl rfl rfl h3 ?_
          refine RW.pickC rfl rfl h3 rfl ?_
          refine RW.assign rfl rfl ?_
          refine RW.nil ?_
          -- mq: joinend
          refine EX.jn (Sub.cons (by rfl) (Sub.cons (by rfl) (Sub.cons (by rfl) (Sub.cons (by rfl) (Sub.cons ?_ Sub.nil))))) (fun _ h => h)
          rw [h2, h3]
          rfl
      · skip
        have h2p := of_decide_eq_false h2
        refine RW.guardF rfl rfl rfl h2 ?_
        refine RW.guardF rfl rfl rfl h2 ?_
        refine RW.guardF rfl rfl rfl h2 ?_
        refine RW.guardF rfl rfl rfl h2 ?_
        refine RW.pickC rfl rfl h2 rfl ?_
        refine RW.move rfl rfl ?_
        refine RW.guardF rfl rfl rfl rfl ?_
        refine RW.guardF rfl rfl rfl rfl ?_
        refine RW.guardF rfl rfl rfl rfl ?_
        refine RW.pickC rfl rfl rfl rfl ?_
        refine RW.assign rfl rfl ?_
        refine RW.nil ?_
        -- mq: joinend
        -- mq: joinend
        refine EX.jn (Sub.cons (by rfl) (Sub.cons (by rfl) (Sub.cons (by rfl) (Sub.cons (by rfl) (Sub.cons ?_ Sub.nil))))) (fun _ h => h)
        rw [h2]
        rfl
    · skip
      refine EX.seq (CW.seq (CW.seq (CW.region ?_)))
      refine RW.assign rfl rfl ?_
      refine RW.nil (EX.seq (CW.block ?_))
      -- mq: loop
      refine CW.loop (ι := Nat × SI) (fun s => [(1, .slice A m c), (2, .int .i64 x), (7, ptr g), (9, .bool (hasB (setsB n (l.take s.1)) x)), (10, .int .i64 (s.1 : Int))]) (fun s => SH w [] [stp g n s.2]) (fun s => s.1 ≤ m ∧ Okk (setsB n (l.take s.1)) s.2) (fun s => m - s.1) ?_ ?_
      · exact fun w hw => ⟨(0, i), ⟨Nat.zero_le _, hs⟩, (by repeat (first | exact Sub.nil | refine Sub.cons (by rfl) ?_)), hw⟩
      · rintro ⟨k, j⟩ ⟨hk, hj⟩
        dsimp only at hk hj ⊢
        have hbl := setsB_len n (l.take k)
        refine CW.seq (CW.seq (CW.region ?_))
        refine RW.move rfl rfl ?_
        refine RW.move rfl rfl ?_
        refine RW.lenSl Tryd.underlying23 rfl rfl ?_
        refine RW.lss rfl rfl rfl ?_
        refine RW.nil (EX.seq ?_)
        -- mq: cond
        first | refine CW.condD rfl (fun hlt => ?_) (fun hlt => ?_) | refine CW.cond rfl (fun hlt => ?_) (fun hlt => ?_)
        · skip
          obtain ⟨v, hv⟩ : ∃ v, l[k]? = some v := ⟨l[k]'(by omega), List.getElem?_eq_getElem _⟩
          have hv16 := hl16 v (List.mem_of_getElem? hv)
          have hsn := setsB_snoc (n := n) hv
          obtain ⟨ad, hA, _, hcell⟩ := hr.at_ hv
          refine CW.skip (EX.seq (CW.seq (CW.block (CW.seq ?_))))
          -- mq: region
          refine CW.region ?_
          refine RW.move rfl rfl ?_
          refine RW.move rfl rfl ?_
          refine RW.move rfl rfl ?_
          refine RW.ixAddr (q := k) sl23 rfl rfl rfl hA (by omega) (by omega) ?_
          refine RW.load1 sc22 rfl rfl (fun w' hw' => hw'.base_cell (hcell 0 _ rfl) (by simp)) ?_
          refine RW.convI rfl rfl Tryd.underlying22 Tryd.underlying3 (wrap64 (by omega) (by omega)) ?_
          refine RW.callUI (fun j => [stp g n j]) rfl ca11 rfl (fun _ => Upd.head) (fun w' hw' => set_n hj hbl (hw'.has Has.head) (by simpa [feet] using hw'.nodup) v (by omega)) (fun j2 hj2 => ?_)
          refine RW.nil (EX.seq ?_)
          -- mq: region
          refine CW.join ([(1, .slice A m c), (2, .int .i64 x), (7, ptr g), (9, .bool (hasB (setsB n (l.take (k + 1))) x)), (10, .int .i64 (k : Int))]) (SH w [] [stp g n j2]) ?_ ?_
          · skip
            rw [hsn, hasB_with, hbl]
            refine CW.region ?_
            refine RW.move rfl rfl ?_
            refine RW.move rfl rfl ?_
            -- mq: guard slot 60
            refine RW.casesB 60 rfl (fun h2 => ?_) (fun h2 => ?_)
            · skip
              refine RW.guardF rfl rfl rfl h2 ?_
              refine RW.guardF rfl rfl rfl h2 ?_
              refine RW.guardF rfl rfl rfl h2 ?_
              refine RW.guardF rfl rfl rfl h2 ?_
              refine RW.guardF rfl rfl rfl h2 ?_
              refine RW.guardF rfl rfl rfl h2 ?_
              refine RW.guardF rfl rfl rfl h2 ?_
              refine RW.guardF rfl rfl rfl h2 ?_
              refine RW.guardU rfl rfl rfl ?_
              refine RW.guardU rfl rfl rfl ?_
              refine RW.guardU rfl rfl rfl ?_
              refine RW.guardU rfl rfl rfl ?_
              refine RW.guardF rfl rfl rfl h2 ?_
              refine RW.pickB rfl rfl h2 rfl ?_
              refine RW.assign rfl rfl ?_
              refine RW.nil ?_
              -- mq: joinend
              refine EX.jn (Sub.cons (by rfl) (Sub.cons (by rfl) (Sub.cons (by rfl) (Sub.cons ?_ (Sub.cons (by rfl) Sub.nil))))) (fun _ h => h)
              rw [h2]
              rfl
            · skip
              refine RW.guardT rfl rfl h2 ?_
              refine RW.move rfl rfl ?_
              refine RW.guardT rfl rfl h2 ?_
              refine RW.move rfl rfl ?_
              refine RW.guardT rfl rfl h2 ?_
              refine RW.ixAddr (q := k) sl23 rfl rfl rfl hA (by omega) (by omega) ?_
              refine RW.guardT rfl rfl h2 ?_
              refine RW.load1 sc22 rfl rfl (fun w' hw' => hw'.base_cell (hcell 0 _ rfl) (by simp)) ?_
              refine RW.guardT rfl rfl h2 ?_
              refine RW.convI rfl rfl Tryd.underlying22 Tryd.underlying3 (wrap64 (by omega) (by omega)) ?_
              refine RW.guardT rfl rfl h2 ?_
              refine RW.move rfl rfl ?_
              refine RW.guardT rfl rfl h2 ?_
              refine RW.eqlI rfl rfl rfl ?_
              refine RW.guardT rfl rfl h2 ?_
              refine RW.move rfl rfl ?_
              -- mq: guard slot 68
              refine RW.casesB 68 rfl (fun h3 => ?_) (fun h3 => ?_)
              · skip
                have h3p := of_decide_eq_true h3
                refine RW.guardT rfl rfl h3 ?_
                refine RW.move rfl rfl ?_
                refine RW.guardT rfl rfl h3 ?_
                refine RW.move rfl rfl ?_
                refine RW.guardT rfl rfl h3 ?_
                refine RW.call rfl ca10 rfl (fun w' hw' => cols_n hj2 (hw'.has Has.head)) ?_
                refine RW.guardT rfl rfl h3 ?_
                refine RW.lss rfl rfl rfl ?_
                refine RW.guardT rfl rfl h2 ?_
                refine RW.pickB rfl rfl h3 rfl ?_
                refine RW.pickC rfl rfl h2 rfl ?_
                refine RW.assign rfl rfl ?_
                refine RW.nil ?_
                -- mq: joinend
                refine EX.jn (Sub.cons (by rfl) (Sub.cons (by rfl) (Sub.cons (by rfl) (Sub.cons ?_ (Sub.cons (by rfl) Sub.nil))))) (fun _ h => h)
                rw [h2, h3]
                rfl
              · skip
                have h3p := of_decide_eq_false h3
                refine RW.guardF rfl rfl rfl h3 ?_
                refine RW.guardF rfl rfl rfl h3 ?_
                refine RW.guardF rfl rfl rfl h3 ?_
                refine RW.guardF rfl rfl rfl h3 ?_
                refine RW.guardT rfl rfl h2 ?_
                refine RW.pickC rfl rfl h3 rfl ?_
                refine RW.pickC rfl rfl h2 rfl ?_
                refine RW.assign rfl rfl ?_
                refine RW.nil ?_
                -- mq: joinend
                refine EX.jn (Sub.cons (by rfl) (Sub.cons (by rfl) (Sub.cons (by rfl) (Sub.cons ?_ (Sub.cons (by rfl) Sub.nil))))) (fun _ h => h)
                rw [h2, h3]
                rfl
          · skip
            refine EX.bkN (EX.seq (CW.region ?_))
            refine RW.move rfl rfl ?_
            refine RW.add rfl rfl rfl (wrap64 (by omega) (by omega)) ?_
            refine RW.assign rfl rfl ?_
            refine RW.nil ?_
            -- mq: loopend
            exact EX.lpN (k + 1, j2) ⟨by dsimp only; omega, by dsimp only; rw [hsn]; exact hj2⟩ (by dsimp only; omega) (by repeat (first | exact Sub.nil | refine Sub.cons (by rfl) ?_)) (fun w' hw' => hw')
        · skip
          refine CW.exit (EX.seqE (EX.lpE (EX.bkE (EX.seq (CW.seq (CW.seq (CW.region ?_)))))))
          refine RW.move rfl rfl ?_
          refine RW.move rfl rfl ?_
          refine RW.call rfl ca12 rfl (fun w' hw' => has_n hj hbl (hw'.has Has.head) x hx64) ?_
          refine RW.move rfl rfl ?_
          refine RW.neqB Tryd.underlying4 rfl rfl rfl ?_
          refine RW.nil (EX.seq ?_)
          -- mq: cond
          refine CW.condF rfl ((by simp)) ?_
          refine CW.skip (EX.seq (CW.seq ?_))
          -- mq: region
          refine CW.region ?_
          refine RW.move rfl rfl ?_
          refine RW.move rfl rfl ?_
          refine RW.callUI (fun j => [stp g n j]) rfl ca13 rfl (fun _ => Upd.head) (fun w' hw' => clear_n hj hbl (hw'.has Has.head) (by simpa [feet] using hw'.nodup) x hx64) (fun j2 hj2 => ?_)
          refine RW.nil (EX.seq (CW.seq ?_))
          -- mq: region
          refine CW.region ?_
          refine RW.move rfl rfl ?_
          refine RW.move rfl rfl ?_
          refine RW.call rfl ca12 rfl (fun w' hw' => has_n hj2 (by rw [withB_len]; exact hbl) (hw'.has Has.head) x hx64) ?_
          refine RW.not_ rfl rfl ?_
          refine RW.assign rfl rfl ?_
          refine RW.nil (EX.seq (CW.ret ?_))
          refine EX.fin1 Tryd.results3 rfl (fun wz hw => ?_)
          -- mq: done
          refine ⟨?_, hw.ext⟩
          rw [hasB_clear]
          rfl
end Go.Proofs.YthfbdbahggklnaaDoor.Mq
