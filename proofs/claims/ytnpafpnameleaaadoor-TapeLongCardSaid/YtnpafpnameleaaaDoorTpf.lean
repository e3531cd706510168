/- tape: TapeWrites; its arguments opened -/
import Derived.Test.YtnpafpnameleaaaDoorTpe
namespace Go.Proofs.YtnpafpnameleaaaDoor.Mq
open Go Go.RowKit Go.Proofs Go.ChangeShapes Go.WideShapes Go.Deep

theorem flatS_nil : flatS [] = [] := rfl
theorem sumD_two {L : List StV} (h : greatT L = false) : L.length ≤ 2000 ∧ sumD L ≤ 2000 := by
  have := of_decide_eq_false h
  omega
theorem writes_c (w : World) (hg : GT w) (F : Nat → Prop) (A : Option Addr) (n c : Nat) (L : List StV) (hr : Rd ESt w F A n c L) (hn : n ≤ reachBytes) (hd : ∀ x ∈ L, x.Wfd) :
    Calls Tryd.prog 7 [.slice A n c].toArray w (fun e w' => e = .returned (.bool true) ∧ Ext [] w w') := by
  have hln := hr.len
  refine calls (n := 76) Tryd.func7 rfl Tryd.ntmps7 rfl ?_
  refine CW.sub (H' := SH w [] []) ?_ (Sub.refl _) (fun x hx => SH.start' _ _ hx)
  refine CW.seq (CW.region ?_)
  refine RW.assign rfl rfl ?_
  refine RW.nil (EX.seq (CW.seq (CW.seq ?_)))
  -- mq: region
  refine CW.region ?_
  refine RW.move rfl rfl ?_
  refine RW.call rfl ca16 rfl (fun w' hw' => Great_c w' F A n c L (hr.ext hw'.ext (by simp)) hn hd) ?_
  refine RW.move rfl rfl ?_
  -- mq: guard slot 14
  refine RW.casesB 14 rfl (fun hG => ?_) (fun hG => ?_)
  · skip
    refine RW.guardF rfl rfl rfl hG ?_
    refine RW.guardF rfl rfl rfl hG ?_
    refine RW.pickB rfl rfl hG rfl ?_
    refine RW.nil (EX.seq ?_)
    -- mq: cond
    refine CW.condT rfl (rfl) ?_
    refine CW.seq (CW.region ?_)
    refine RW.call rfl ca8 rfl (fun w' hw' => awake_c w' (hg.ext hw'.ext)) ?_
    refine RW.assign rfl rfl ?_
    refine RW.nil (EX.seq (CW.ret (EX.seqR ?_)))
    refine EX.fin1 Tryd.results7 rfl (fun wz hw => ?_)
    -- mq: done
    exact ⟨rfl, hw.ext⟩
  · skip
    obtain ⟨hl2, hs2⟩ := sumD_two hG
    have hs : ∀ x ∈ L, x.d.length ≤ 2000 := fun x hx => by have := sumD_mem hx; omega
    refine RW.guardT rfl rfl hG ?_
    refine RW.call rfl ca8 rfl (fun w' hw' => awake_c w' (hg.ext hw'.ext)) ?_
    refine RW.guardT rfl rfl hG ?_
    refine RW.not_ rfl rfl ?_
    refine RW.pickC rfl rfl hG rfl ?_
    refine RW.nil (EX.seq ?_)
    -- mq: cond
    refine CW.condF rfl (rfl) ?_
    refine CW.skip (EX.seq (CW.seq (CW.region ?_)))
    refine RW.move rfl rfl ?_
    refine RW.call rfl ca17 rfl (fun w' hw' => Write_c w' (hg.ext hw'.ext) F A n c L (hr.ext hw'.ext (by simp)) (by omega) hd hs) ?_
    refine RW.move rfl rfl ?_
    refine RW.extract rfl rfl rfl ?_
    refine RW.extract rfl rfl rfl ?_
    refine RW.assign rfl rfl ?_
    refine RW.assign rfl rfl ?_
    refine RW.nil (EX.seq (CW.seq (CW.region ?_)))
    refine RW.assign rfl rfl ?_
    refine RW.nil (EX.seq (CW.seq (CW.seq (CW.region ?_))))
    refine RW.assign rfl rfl ?_
    refine RW.nil (EX.seq (CW.block ?_))
    -- mq: loop
    refine CW.loop (ι := Nat) (fun i => [(0, .slice A n c), (3, .string (bs (if allOk L = true then flatS L else []))), (4, .int .i64 (if allOk L = true then 0 else 1)), (5, .string (bs (flatS (L.take i)))), (6, .int .i64 (i : Int))]) (fun _ => SH w [] []) (fun i => i ≤ n ∧ (∀ x ∈ L.take i, okSt x = true) ∧ (flatS (L.take i)).length ≤ 20000 * i) (fun i => n - i) ?_ ?_
    · refine fun w' hw' => ⟨0, ⟨Nat.zero_le _, by simp, Nat.le_refl _⟩, ?_, hw'⟩
      rw [show L.take 0 = [] from rfl, flatS_nil]
      exact (by repeat (first | exact Sub.nil | refine Sub.cons (by rfl) ?_))
    · rintro i ⟨hi, hall, hfl⟩
      refine CW.seq (CW.seq (CW.region ?_))
      refine RW.move rfl rfl ?_
      refine RW.move rfl rfl ?_
      refine RW.lenSl Tryd.underlying36 rfl rfl ?_
      refine RW.lss rfl rfl rfl ?_
      refine RW.nil (EX.seq ?_)
      -- mq: cond
      first | refine CW.condD rfl (fun hlt => ?_) (fun hlt => ?_) | refine CW.cond rfl (fun hlt => ?_) (fun hlt => ?_)
      · skip
        obtain ⟨x, hx⟩ : ∃ x, L[i]? = some x := ⟨L[i]'(by omega), List.getElem?_eq_getElem _⟩
        have hxm := List.mem_of_getElem? hx
        have hwf := (hd x hxm).1
        have hxd := hs x hxm
        obtain ⟨ad, hA, _, hcl⟩ := hr.at_ hx
        have hRi := fun w' => refLine_c4 w' x.k x.a x.b x.d hwf.2.1 hwf.2.2
        refine CW.skip (EX.seq (CW.seq (CW.block (CW.seq ?_))))
        -- mq: region
        by_cases hok : okSt x = true
        · skip
          have hle := lineS_le hok hwf.2.1 hwf.2.2
          have hfs := flatS_succ hx
          rw [show rlineV ⟨x.k, x.a, x.b, x.d⟩ = _ from rlineV_ok (x := x) hok] at hRi
          refine CW.region ?_
          refine RW.move rfl rfl ?_
          refine RW.move rfl rfl ?_
          refine RW.ixAddr (q := i) sl36 rfl rfl rfl (by first | rfl | assumption) (by omega) (by omega) ?_
          refine RW.loadA ag23 rfl rfl (rfl) (fun w' hw' j u hj => hw'.base_cell (hcl j u hj) (by simp)) ?_
          refine RW.call rfl ca10 rfl (fun w' hw' => hRi w') ?_
          refine RW.move rfl rfl ?_
          refine RW.extract rfl rfl rfl ?_
          refine RW.extract rfl rfl rfl ?_
          refine RW.assign rfl rfl ?_
          refine RW.assign rfl rfl ?_
          refine RW.nil (EX.seq (CW.seq (CW.seq (CW.region ?_))))
          refine RW.move rfl rfl ?_
          refine RW.not_ rfl rfl ?_
          refine RW.nil (EX.seq ?_)
          -- mq: cond
          refine CW.condF rfl (rfl) ?_
          refine CW.skip (EX.seq (CW.region ?_))
          refine RW.move rfl rfl ?_
          refine RW.move rfl rfl ?_
          refine RW.catS rfl rfl rfl (by first | omega | (simp only [List.length_append, List.length_cons, List.length_nil]; omega)) ?_
          refine RW.catS rfl rfl rfl (by first | omega | (simp only [List.length_append, List.length_cons, List.length_nil]; omega)) ?_
          refine RW.assign rfl rfl ?_
          refine RW.nil (EX.bkN (EX.seq (CW.region ?_)))
          refine RW.move rfl rfl ?_
          refine RW.add rfl rfl rfl (wrap64 (by omega) (by omega)) ?_
          refine RW.assign rfl rfl ?_
          refine RW.nil ?_
          -- mq: loopend
          refine EX.lpN (i + 1) ⟨by omega, fun y hy => ?_, ?_⟩ (by omega) (by rw [hfs, ← List.append_assoc]; exact (by repeat (first | exact Sub.nil | refine Sub.cons (by rfl) ?_))) (fun w' hw' => hw')
          · rw [List.take_add_one, hx, Option.toList_some] at hy
            rcases List.mem_append.1 hy with hy | hy
            · exact hall y hy
            · rw [List.mem_singleton.1 hy]; exact hok
          · rw [hfs, List.length_append, List.length_append]; simp only [List.length_cons, List.length_nil]; omega
        · skip
          have hno := allOk_not hxm hok
          rw [show rlineV ⟨x.k, x.a, x.b, x.d⟩ = _ from rlineV_no (x := x) hok] at hRi
          rw [show (if allOk L = true then flatS L else []) = [] from if_neg hno, show (if allOk L = true then (0 : Int) else 1) = 1 from if_neg hno]
          refine CW.region ?_
          refine RW.move rfl rfl ?_
          refine RW.move rfl rfl ?_
          refine RW.ixAddr (q := i) sl36 rfl rfl rfl (by first | rfl | assumption) (by omega) (by omega) ?_
          refine RW.loadA ag23 rfl rfl (rfl) (fun w' hw' j u hj => hw'.base_cell (hcl j u hj) (by simp)) ?_
          refine RW.call rfl ca10 rfl (fun w' hw' => hRi w') ?_
          refine RW.move rfl rfl ?_
          refine RW.extract rfl rfl rfl ?_
          refine RW.extract rfl rfl rfl ?_
          refine RW.assign rfl rfl ?_
          refine RW.assign rfl rfl ?_
          refine RW.nil (EX.seq (CW.seq (CW.seq (CW.region ?_))))
          refine RW.move rfl rfl ?_
          refine RW.not_ rfl rfl ?_
          refine RW.nil (EX.seq ?_)
          -- mq: cond
          refine CW.condT rfl (rfl) ?_
          refine CW.seq (CW.region ?_)
          refine RW.move rfl rfl ?_
          refine RW.eqlS rfl rfl rfl ?_
          refine RW.move rfl rfl ?_
          refine RW.guardT rfl rfl (decide_eq_true rfl) ?_
          refine RW.move rfl rfl ?_
          refine RW.guardT rfl rfl (decide_eq_true rfl) ?_
          refine RW.eqlI rfl rfl rfl ?_
          refine RW.pickB rfl rfl (decide_eq_true rfl) rfl ?_
          refine RW.assign rfl rfl ?_
          refine RW.nil (EX.seq (CW.ret (EX.seqR (EX.bkR (EX.seqR (EX.lpR (EX.bkR (EX.seqR ?_))))))))
          refine EX.fin1 Tryd.results7 rfl (fun wz hw => ?_)
          -- mq: done
          exact ⟨rfl, hw.ext⟩
      · skip
        have htk : L.take i = L := List.take_of_length_le (by omega)
        rw [htk] at hall ⊢
        have hok := allOk_of hall
        have hfa : ∀ x ∈ L, okSt x = true ∧ In64 x.a ∧ In64 x.b := fun x hx => ⟨hall x hx, (hd x hx).1.2.1, (hd x hx).1.2.2⟩
        have hfl2 := flatS_le L hfa
        have hrf := readF_flat L 1 hfa
        rw [show (if allOk L = true then flatS L else []) = flatS L from if_pos hok, show (if allOk L = true then (0 : Int) else 1) = 0 from if_pos hok]
        refine CW.exit (EX.seqE (EX.lpE (EX.bkE (EX.seq (CW.seq ?_)))))
        -- mq: region
        refine CW.region ?_
        refine RW.move rfl rfl ?_
        -- mq: at
        refine RW.callA (R := fun w0 => IsRead (L, 0, 0) w0) rfl ca13 rfl (fun w' hw' => by have h := Read_c w' (hg.ext hw'.ext) (flatS L) (by omega); rw [hrf] at h; exact h) (fun w1 w2 v hw1 he12 hw2 hlt2 hv => ?_)
        obtain ⟨A2, m2, c2, rfl, hrd⟩ := hv
        have hx12 : Ext [] w w2 := hw1.ext.trans0 he12
        have hcv := hw1.cov
        have hr2 := hr.ext hx12 (by simp)
        refine RW.move rfl rfl ?_
        refine RW.extract rfl rfl rfl ?_
        refine RW.extract rfl rfl rfl ?_
        refine RW.extract rfl rfl rfl ?_
        refine RW.assign rfl rfl ?_
        refine RW.assign rfl rfl ?_
        refine RW.assign rfl rfl ?_
        refine RW.nil (EX.seq (CW.seq ?_))
        -- mq: region
        refine CW.region ?_
        refine RW.move rfl rfl ?_
        refine RW.eqlI rfl rfl rfl ?_
        refine RW.move rfl rfl ?_
        refine RW.guardT rfl rfl (decide_eq_true rfl) ?_
        refine RW.move rfl rfl ?_
        refine RW.guardT rfl rfl (decide_eq_true rfl) ?_
        refine RW.move rfl rfl ?_
        refine RW.guardT rfl rfl (decide_eq_true rfl) ?_
        refine RW.eqlS rfl rfl rfl ?_
        refine RW.pickB rfl rfl (decide_eq_true rfl) rfl ?_
        refine RW.move rfl rfl ?_
        refine RW.guardT rfl rfl (decide_eq_true rfl) ?_
        refine RW.move rfl rfl ?_
        refine RW.guardT rfl rfl (decide_eq_true rfl) ?_
        refine RW.eqlI rfl rfl rfl ?_
        refine RW.pickB rfl rfl (decide_eq_true rfl) rfl ?_
        refine RW.move rfl rfl ?_
        refine RW.guardT rfl rfl (decide_eq_true rfl) ?_
        refine RW.move rfl rfl ?_
        refine RW.guardT rfl rfl (decide_eq_true rfl) ?_
        refine RW.eqlI rfl rfl rfl ?_
        refine RW.pickB rfl rfl (decide_eq_true rfl) rfl ?_
        refine RW.move rfl rfl ?_
        refine RW.guardT rfl rfl (decide_eq_true rfl) ?_
        refine RW.move rfl rfl ?_
        refine RW.guardT rfl rfl (decide_eq_true rfl) ?_
        refine RW.move rfl rfl ?_
        refine RW.guardT rfl rfl (decide_eq_true rfl) ?_
        refine RW.call (v := .bool true) rfl ca14 rfl (fun w' hw' => by have h := Same_c w' _ _ A2 A m2 c2 n c L L (hrd.ext hw'.ext (by intro k hk hk2; cases hk2)) (hr2.ext hw'.ext (by intro k hk hk2; cases hk2)); rw [decide_eq_true rfl] at h; exact h) ?_
        refine RW.pickB rfl rfl (decide_eq_true rfl) rfl ?_
        refine RW.assign rfl rfl ?_
        refine RW.nil (EX.seq (CW.ret ?_))
        refine EX.fin1 Tryd.results7 rfl (fun wz hw => ?_)
        -- mq: done
        exact ⟨rfl, (hw.unbase hx12 hcv).ext⟩
section
variable {H : Type} {enc : TypeId × Value → H} {w : World} {base : Nat} {spare : Nat → Bool} {held : Bool}
theorem std_of {P : Program} {cs : List Value} (h : Fits enc P w base spare held stShape cs) : ∃ a : StV, ESt.enc a = cs ∧ a.Wfd := by
  obtain ⟨_, _, rfl, ⟨x0, rfl, k0⟩, h0⟩ := h.cons
  obtain ⟨_, _, rfl, ⟨x1, rfl, k1⟩, h1⟩ := h0.cons
  obtain ⟨_, _, rfl, ⟨x2, rfl, k2⟩, h2⟩ := h1.cons
  obtain ⟨_, _, rfl, ⟨x3, rfl, k3⟩, h3⟩ := h2.cons
  obtain rfl := h3.nil'
  exact ⟨⟨x0, x1, x2, x3.data.toList⟩, rfl, ⟨wf64 k0, wf64 k1, wf64 k2⟩, by show x3.data.toList.length ≤ reachBytes; rw [Array.length_toList]; exact k3⟩
theorem shpSt : shp Tryd.prog 4 23 = some stShape := by kernel_rfl
theorem openSts {fuel : Nat} {A : Option Addr} {n c : Nat} {x : DataW H × List MemPlace} (h : DataW.trod enc Tryd.prog w base spare held fuel 36 [.slice A n c] = some x) (hw : Wt Tryd.prog 36 x.1) :
    ∃ l, Rd ESt w (fun k => k < w.heap.size) A n c l ∧ n ≤ reachBytes ∧ ∀ a ∈ l, a.Wfd := by
  obtain ⟨l, h1, h3, h2⟩ := open_rd (E := ESt) (G := StV.Wfd) 4 _ Tryd.underlying36 (by kernel_rfl) (by decide) shpSt (fun cs hc => std_of hc) (of_decide_eq_true (by kernel_rfl)) h hw
  exact ⟨l, h1, h2, h3⟩
end
end Go.Proofs.YtnpafpnameleaaaDoor.Mq
