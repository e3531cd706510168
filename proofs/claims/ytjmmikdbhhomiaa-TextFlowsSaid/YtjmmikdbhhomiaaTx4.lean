/- text: the document's decoder: it answers (whatever it be) -/
import Derived.Test.YtjmmikdbhhomiaaTx3
namespace Go.Proofs.Ytjmmikdbhhomiaa.Mq
open Go Go.RowKit Go.Proofs

def EI32 : Enc Int := ⟨fun r => [.int .i32 r], 1, fun _ => rfl, fun _ => Ones.cons rfl Ones.nil⟩
def IsI32 (v : Value) : Prop := ∃ r : Int, v = .int .i32 r
def IsBool (v : Value) : Prop := ∃ b : Bool, v = .bool b
theorem number_c (w : World) (F : Nat → Prop) (A : Option Addr) (n c : Nat) (b : List UInt8) (hr : Rd EU8 w F A n c b) :
    Calls Try.prog 53 [.slice A n c].toArray w (RetA (fun v _ => IsI32 v) w) := by
  have hl := hr.len
  refine calls (n := 68) Try.func53 rfl Try.ntmps53 rfl ?_
  refine CW.sub (H' := SH w [] []) ?_ (Sub.refl _) (fun x hx => SH.start' _ _ hx)
  refine CW.seq (CW.region ?_)
  refine RW.assign rfl rfl ?_
  refine RW.nil (EX.seq (CW.seq (CW.region ?_)))
  refine RW.move rfl rfl ?_
  refine RW.lenSl Try.underlying59 rfl rfl ?_
  refine RW.assign rfl rfl ?_
  refine RW.nil (EX.seq (CW.seq (CW.seq (CW.region ?_))))
  refine RW.move rfl rfl ?_
  refine RW.eqlI rfl rfl rfl ?_
  refine RW.move rfl rfl ?_
  -- mq: guard slot 11
  refine RW.casesB 11 rfl (fun h1 => ?_) (fun h1 => ?_)
  · skip
    have h1p := of_decide_eq_true h1
    refine RW.guardF rfl rfl rfl h1 ?_
    refine RW.guardF rfl rfl rfl h1 ?_
    refine RW.pickB rfl rfl h1 rfl ?_
    refine RW.nil (EX.seq ?_)
    -- mq: cond
    refine CW.condT rfl (rfl) ?_
    refine CW.seq (CW.region ?_)
    refine RW.assign rfl rfl ?_
    refine RW.nil (EX.seq (CW.ret (EX.seqR ?_)))
    refine EX.fin1 Try.results53 rfl (fun wz hw => ?_)
    -- mq: done
    exact ⟨_, rfl, hw.ext, _, rfl⟩
  · skip
    have h1p := of_decide_eq_false h1
    refine RW.guardT rfl rfl h1 ?_
    refine RW.move rfl rfl ?_
    refine RW.guardT rfl rfl h1 ?_
    refine RW.gtr rfl rfl rfl ?_
    refine RW.pickC rfl rfl h1 rfl ?_
    refine RW.nil (EX.seq ?_)
    -- mq: cond
    first | refine CW.condD rfl (fun h2 => ?_) (fun h2 => ?_) | refine CW.cond rfl (fun h2 => ?_) (fun h2 => ?_)
    · skip
      refine CW.seq (CW.region ?_)
      refine RW.assign rfl rfl ?_
      refine RW.nil (EX.seq (CW.ret (EX.seqR ?_)))
      refine EX.fin1 Try.results53 rfl (fun wz hw => ?_)
      -- mq: done
      exact ⟨_, rfl, hw.ext, _, rfl⟩
    · skip
      have hn1 : 1 ≤ n := by omega
      obtain ⟨c0, hc0⟩ : ∃ a, b[0]? = some a := ⟨b[0]'(by omega), List.getElem?_eq_getElem _⟩
      obtain ⟨ad, hA, _, hcl⟩ := hr.at_ hc0
      refine CW.skip (EX.seq (CW.seq (CW.seq (CW.region ?_))))
      refine RW.move rfl rfl ?_
      refine RW.eqlI rfl rfl rfl ?_
      refine RW.nil (EX.seq ?_)
      -- mq: cond
      first | refine CW.condD rfl (fun h3 => ?_) (fun h3 => ?_) | refine CW.cond rfl (fun h3 => ?_) (fun h3 => ?_)
      · skip
        refine CW.seq (CW.region ?_)
        refine RW.move rfl rfl ?_
        refine RW.ixAddr (q := 0) sl59 rfl rfl rfl (by first | rfl | assumption) (by omega) (by omega) ?_
        refine RW.load1 sc5 rfl rfl (fun w' hw' => hw'.base_cell (hcl 0 _ rfl) (by simp)) ?_
        refine RW.convI rfl rfl Try.underlying5 Try.underlying21 rfl ?_
        refine RW.assign rfl rfl ?_
        refine RW.nil (EX.seq (CW.ret (EX.seqR ?_)))
        refine EX.fin1 Try.results53 rfl (fun wz hw => ?_)
        -- mq: done
        exact ⟨_, rfl, hw.ext, _, rfl⟩
      · skip
        obtain ⟨v24, hv24⟩ : ∃ v : Int, ([.int .i32 0, .int .i32 0, .int .i32 192, .int .i32 224, .int .i32 240] : List Value)[0 + n * 1]? = some (.int .i32 v) := by
          rcases (show n = 2 ∨ n = 3 ∨ n = 4 by omega) with rfl | rfl | rfl <;> exact ⟨_, rfl⟩
        obtain ⟨v38, hv38⟩ : ∃ v : Int, ([.int .i32 0, .int .i32 0, .int .i32 32, .int .i32 16, .int .i32 8] : List Value)[0 + n * 1]? = some (.int .i32 v) := by
          rcases (show n = 2 ∨ n = 3 ∨ n = 4 by omega) with rfl | rfl | rfl <;> exact ⟨_, rfl⟩
        refine CW.skip (EX.seq (CW.seq ?_))
        -- mq: region
        refine CW.region ?_
        refine RW.buildSlc sl70 rfl rfl rfl rfl (fun g21 hg21 hf21 => ?_)
        refine RW.move rfl rfl ?_
        refine RW.ixAddr (q := n) sl70 rfl rfl rfl (by first | rfl | assumption) (by omega) (by omega) ?_
        refine RW.load1 sc21 rfl rfl (fun w' hw' => by rw [Addr.add_lit]; exact hw'.blk_cell Has.head hv24) ?_
        refine RW.assign rfl rfl ?_
        refine RW.nil (EX.seq (CW.seq ?_))
        -- mq: region
        refine CW.region ?_
        refine RW.move rfl rfl ?_
        refine RW.ixAddr (q := 0) sl59 rfl rfl rfl (by first | rfl | assumption) (by omega) (by omega) ?_
        refine RW.load1 sc5 rfl rfl (fun w' hw' => hw'.base_cell (hcl 0 _ rfl) (by simp)) ?_
        refine RW.convI rfl rfl Try.underlying5 Try.underlying21 rfl ?_
        refine RW.move rfl rfl ?_
        refine RW.sub_ rfl rfl rfl rfl ?_
        refine RW.assign rfl rfl ?_
        refine RW.nil (EX.seq (CW.seq (CW.seq ?_)))
        -- mq: region
        generalize IntKind.i32.wrap (IntKind.i32.wrap (c0.toNat : Int) - v24) = r5
        refine CW.region ?_
        refine RW.move rfl rfl ?_
        refine RW.lss rfl rfl rfl ?_
        refine RW.move rfl rfl ?_
        -- mq: guard slot 33
        refine RW.casesB 33 rfl (fun h4 => ?_) (fun h4 => ?_)
        · skip
          have h4p := of_decide_eq_true h4
          refine RW.guardF rfl rfl rfl h4 ?_
          refine RW.guardF rfl rfl rfl h4 ?_
          refine RW.guardF rfl rfl rfl h4 ?_
          refine RW.guardF rfl rfl rfl h4 ?_
          refine RW.guardF rfl rfl rfl h4 ?_
          refine RW.guardF rfl rfl rfl h4 ?_
          refine RW.pickB rfl rfl h4 rfl ?_
          refine RW.nil (EX.seq ?_)
          -- mq: cond
          refine CW.condT rfl (rfl) ?_
          refine CW.seq (CW.region ?_)
          refine RW.assign rfl rfl ?_
          refine RW.nil (EX.seq (CW.ret (EX.seqR ?_)))
          refine EX.fin1 Try.results53 rfl (fun wz hw => ?_)
          -- mq: done
          exact ⟨_, rfl, hw.ext, _, rfl⟩
        · skip
          have h4p := of_decide_eq_false h4
          refine RW.guardT rfl rfl h4 ?_
          refine RW.move rfl rfl ?_
          refine RW.guardT rfl rfl h4 ?_
          refine RW.buildSlc sl70 rfl rfl rfl rfl (fun g35 hg35 hf35 => ?_)
          refine RW.guardT rfl rfl h4 ?_
          refine RW.move rfl rfl ?_
          refine RW.guardT rfl rfl h4 ?_
          refine RW.ixAddr (q := n) sl70 rfl rfl rfl (by first | rfl | assumption) (by omega) (by omega) ?_
          refine RW.guardT rfl rfl h4 ?_
          refine RW.load1 sc21 rfl rfl (fun w' hw' => by rw [Addr.add_lit]; exact hw'.blk_cell Has.head hv38) ?_
          refine RW.guardT rfl rfl h4 ?_
          refine RW.geq rfl rfl rfl ?_
          refine RW.pickC rfl rfl h4 rfl ?_
          refine RW.nil (EX.seq ?_)
          -- mq: cond
          first | refine CW.condD rfl (fun h5 => ?_) (fun h5 => ?_) | refine CW.cond rfl (fun h5 => ?_) (fun h5 => ?_)
          · skip
            refine CW.seq (CW.region ?_)
            refine RW.assign rfl rfl ?_
            refine RW.nil (EX.seq (CW.ret (EX.seqR ?_)))
            refine EX.fin1 Try.results53 rfl (fun wz hw => ?_)
            -- mq: done
            exact ⟨_, rfl, hw.ext, _, rfl⟩
          · skip
            refine CW.skip (EX.seq (CW.seq (CW.seq (CW.region ?_))))
            refine RW.assign rfl rfl ?_
            refine RW.nil (EX.seq (CW.block ?_))
            -- mq: loop
            refine CW.loop (ι := Nat × Int) (fun t => [(0, .slice A n c), (3, .int .i64 (n : Int)), (5, .int .i32 t.2), (6, .int .i64 (t.1 : Int))]) (fun _ => SH w [] []) (fun t => t.1 ≤ n) (fun t => n - t.1) ?_ ?_
            · exact fun w' hw' => ⟨(1, r5), hn1, (by repeat (first | exact Sub.nil | refine Sub.cons (by rfl) ?_)), (hw'.rem Rem.head).rem Rem.head⟩
            · rintro ⟨i, r⟩ hi
              dsimp only at hi ⊢
              refine CW.seq (CW.seq (CW.region ?_))
              refine RW.move rfl rfl ?_
              refine RW.move rfl rfl ?_
              refine RW.lss rfl rfl rfl ?_
              refine RW.nil (EX.seq ?_)
              -- mq: cond
              first | refine CW.condD rfl (fun hlt => ?_) (fun hlt => ?_) | refine CW.cond rfl (fun hlt => ?_) (fun hlt => ?_)
              · skip
                obtain ⟨ci, hci⟩ : ∃ a, b[i]? = some a := ⟨b[i]'(by omega), List.getElem?_eq_getElem _⟩
                obtain ⟨adi, hAi, _, hcli⟩ := hr.at_ hci
                refine CW.skip (EX.seq (CW.seq (CW.block (CW.seq (CW.seq (CW.region ?_))))))
                refine RW.move rfl rfl ?_
                refine RW.move rfl rfl ?_
                refine RW.ixAddr (q := i) sl59 rfl rfl rfl (by first | rfl | assumption) (by omega) (by omega) ?_
                refine RW.load1 sc5 rfl rfl (fun w' hw' => hw'.base_cell (hcli 0 _ rfl) (by simp)) ?_
                refine RW.lss rfl rfl rfl ?_
                refine RW.move rfl rfl ?_
                -- mq: guard slot 51
                refine RW.casesB 51 rfl (fun h6 => ?_) (fun h6 => ?_)
                · skip
                  have h6p := of_decide_eq_true h6
                  refine RW.guardF rfl rfl rfl h6 ?_
                  refine RW.guardF rfl rfl rfl h6 ?_
                  refine RW.guardF rfl rfl rfl h6 ?_
                  refine RW.guardF rfl rfl rfl h6 ?_
                  refine RW.guardF rfl rfl rfl h6 ?_
                  refine RW.pickB rfl rfl h6 rfl ?_
                  refine RW.nil (EX.seq ?_)
                  -- mq: cond
                  refine CW.condT rfl (rfl) ?_
                  refine CW.seq (CW.region ?_)
                  refine RW.assign rfl rfl ?_
                  refine RW.nil (EX.seq (CW.ret (EX.seqR (EX.bkR (EX.seqR (EX.lpR (EX.bkR (EX.seqR ?_))))))))
                  refine EX.fin1 Try.results53 rfl (fun wz hw => ?_)
                  -- mq: done
                  exact ⟨_, rfl, hw.ext, _, rfl⟩
                · skip
                  have h6p := of_decide_eq_false h6
                  have hAj := hAi
                  refine RW.guardT rfl rfl h6 ?_
                  refine RW.move rfl rfl ?_
                  refine RW.guardT rfl rfl h6 ?_
                  refine RW.move rfl rfl ?_
                  refine RW.guardT rfl rfl h6 ?_
                  refine RW.ixAddr (q := i) sl59 rfl rfl rfl (by first | rfl | assumption) (by omega) (by omega) ?_
                  refine RW.guardT rfl rfl h6 ?_
                  refine RW.load1 sc5 rfl rfl (fun w' hw' => hw'.base_cell (hcli 0 _ rfl) (by simp)) ?_
                  refine RW.guardT rfl rfl h6 ?_
                  refine RW.gtr rfl rfl rfl ?_
                  refine RW.pickC rfl rfl h6 rfl ?_
                  refine RW.nil (EX.seq ?_)
                  -- mq: cond
                  first | refine CW.condD rfl (fun h7 => ?_) (fun h7 => ?_) | refine CW.cond rfl (fun h7 => ?_) (fun h7 => ?_)
                  · skip
                    refine CW.seq (CW.region ?_)
                    refine RW.assign rfl rfl ?_
                    refine RW.nil (EX.seq (CW.ret (EX.seqR (EX.bkR (EX.seqR (EX.lpR (EX.bkR (EX.seqR ?_))))))))
                    refine EX.fin1 Try.results53 rfl (fun wz hw => ?_)
                    -- mq: done
                    exact ⟨_, rfl, hw.ext, _, rfl⟩
                  · skip
                    have hAk := hAi
                    refine CW.skip (EX.seq (CW.region ?_))
                    refine RW.move rfl rfl ?_
                    refine RW.mul rfl rfl rfl rfl ?_
                    refine RW.move rfl rfl ?_
                    refine RW.move rfl rfl ?_
                    refine RW.ixAddr (q := i) sl59 rfl rfl rfl (by first | rfl | assumption) (by omega) (by omega) ?_
                    refine RW.load1 sc5 rfl rfl (fun w' hw' => hw'.base_cell (hcli 0 _ rfl) (by simp)) ?_
                    refine RW.convI rfl rfl Try.underlying5 Try.underlying21 rfl ?_
                    refine RW.add rfl rfl rfl rfl ?_
                    refine RW.sub_ rfl rfl rfl rfl ?_
                    refine RW.assign rfl rfl ?_
                    refine RW.nil (EX.bkN (EX.seq (CW.region ?_)))
                    refine RW.move rfl rfl ?_
                    refine RW.add rfl rfl rfl (wrap64 (by omega) (by omega)) ?_
                    refine RW.assign rfl rfl ?_
                    refine RW.nil ?_
                    -- mq: loopend
                    exact EX.lpN (i + 1, _) (by dsimp only; omega) (by dsimp only; omega) (by repeat (first | exact Sub.nil | refine Sub.cons (by rfl) ?_)) (fun w' hw' => hw')
              · skip
                refine CW.exit (EX.seqE (EX.lpE (EX.bkE (EX.seq (CW.seq (CW.region ?_))))))
                refine RW.move rfl rfl ?_
                refine RW.assign rfl rfl ?_
                refine RW.nil (EX.seq (CW.ret ?_))
                refine EX.fin1 Try.results53 rfl (fun wz hw => ?_)
                -- mq: done
                exact ⟨_, rfl, hw.ext, _, rfl⟩
theorem u8_of_int (x : Int) : IntKind.u8.wrap x = ((UInt8.ofNat (IntKind.u8.wrap x).toNat).toNat : Int) := by
  have h : 0 ≤ IntKind.u8.wrap x ∧ IntKind.u8.wrap x ≤ 255 := by rw [IntKind.wrap_u8]; omega
  rw [UInt8.toNat_ofNat']; omega
theorem scalar01_c (w : World) (r : Int) : Calls Try.prog 43 [.int .i32 r].toArray w (RetA (fun v _ => IsBool v) w) := by
  refine calls (n := 17) Try.func43 rfl Try.ntmps43 rfl ?_
  refine CW.sub (H' := SH w [] []) ?_ (Sub.refl _) (fun x hx => SH.start' _ _ hx)
  refine CW.seq (CW.region ?_)
  refine RW.assign rfl rfl ?_
  refine RW.nil (EX.seq (CW.seq (CW.region ?_)))
  refine RW.move rfl rfl ?_
  refine RW.geq rfl rfl rfl ?_
  refine RW.move rfl rfl ?_
  -- mq: guard slot 5
  refine RW.casesB 5 rfl (fun h1 => ?_) (fun h1 => ?_)
  · skip
    have h1p := of_decide_eq_true h1
    refine RW.guardT rfl rfl h1 ?_
    refine RW.move rfl rfl ?_
    refine RW.guardT rfl rfl h1 ?_
    refine RW.lss rfl rfl rfl ?_
    refine RW.pickB rfl rfl h1 rfl ?_
    refine RW.move rfl rfl ?_
    -- mq: guard slot 9
    refine RW.casesB 9 rfl (fun h2 => ?_) (fun h2 => ?_)
    · skip
      have h2p := of_decide_eq_true h2
      refine RW.guardF rfl rfl rfl h2 ?_
      refine RW.guardF rfl rfl rfl h2 ?_
      refine RW.guardF rfl rfl rfl h2 ?_
      refine RW.guardU rfl rfl rfl ?_
      refine RW.guardU rfl rfl rfl ?_
      refine RW.guardF rfl rfl rfl h2 ?_
      refine RW.pickB rfl rfl h2 rfl ?_
      refine RW.assign rfl rfl ?_
      refine RW.nil (EX.seq (CW.ret ?_))
      refine EX.fin1 Try.results43 rfl (fun wz hw => ?_)
      -- mq: done
      exact ⟨_, rfl, hw.ext, _, rfl⟩
    · skip
      have h2p := of_decide_eq_false h2
      refine RW.guardT rfl rfl h2 ?_
      refine RW.move rfl rfl ?_
      refine RW.guardT rfl rfl h2 ?_
      refine RW.gtr rfl rfl rfl ?_
      refine RW.guardT rfl rfl h2 ?_
      refine RW.move rfl rfl ?_
      -- mq: guard slot 12
      refine RW.casesB 12 rfl (fun h3 => ?_) (fun h3 => ?_)
      · skip
        have h3p := of_decide_eq_true h3
        refine RW.guardT rfl rfl h3 ?_
        refine RW.move rfl rfl ?_
        refine RW.guardT rfl rfl h3 ?_
        refine RW.leq rfl rfl rfl ?_
        refine RW.guardT rfl rfl h2 ?_
        refine RW.pickB rfl rfl h3 rfl ?_
        refine RW.pickC rfl rfl h2 rfl ?_
        refine RW.assign rfl rfl ?_
        refine RW.nil (EX.seq (CW.ret ?_))
        refine EX.fin1 Try.results43 rfl (fun wz hw => ?_)
        -- mq: done
        exact ⟨_, rfl, hw.ext, decide (r ≤ 1114111), rfl⟩
      · skip
        have h3p := of_decide_eq_false h3
        refine RW.guardF rfl rfl rfl h3 ?_
        refine RW.guardF rfl rfl rfl h3 ?_
        refine RW.guardT rfl rfl h2 ?_
        refine RW.pickC rfl rfl h3 rfl ?_
        refine RW.pickC rfl rfl h2 rfl ?_
        refine RW.assign rfl rfl ?_
        refine RW.nil (EX.seq (CW.ret ?_))
        refine EX.fin1 Try.results43 rfl (fun wz hw => ?_)
        -- mq: done
        exact ⟨_, rfl, hw.ext, _, rfl⟩
  · skip
    have h1p := of_decide_eq_false h1
    refine RW.guardF rfl rfl rfl h1 ?_
    refine RW.guardF rfl rfl rfl h1 ?_
    refine RW.pickC rfl rfl h1 rfl ?_
    refine RW.move rfl rfl ?_
    refine RW.guardT rfl rfl rfl ?_
    refine RW.move rfl rfl ?_
    refine RW.guardT rfl rfl rfl ?_
    refine RW.gtr rfl rfl rfl ?_
    refine RW.guardT rfl rfl rfl ?_
    refine RW.move rfl rfl ?_
    -- mq: guard slot 12
    refine RW.casesB 12 rfl (fun h3 => ?_) (fun h3 => ?_)
    · skip
      have h3p := of_decide_eq_true h3
      refine RW.guardT rfl rfl h3 ?_
      refine RW.move rfl rfl ?_
      refine RW.guardT rfl rfl h3 ?_
      refine RW.leq rfl rfl rfl ?_
      refine RW.guardT rfl rfl rfl ?_
      refine RW.pickB rfl rfl h3 rfl ?_
      refine RW.pickC rfl rfl rfl rfl ?_
      refine RW.assign rfl rfl ?_
      refine RW.nil (EX.seq (CW.ret ?_))
      refine EX.fin1 Try.results43 rfl (fun wz hw => ?_)
      -- mq: done
      exact ⟨_, rfl, hw.ext, decide (r ≤ 1114111), rfl⟩
    · skip
      have h3p := of_decide_eq_false h3
      refine RW.guardF rfl rfl rfl h3 ?_
      refine RW.guardF rfl rfl rfl h3 ?_
      refine RW.guardT rfl rfl rfl ?_
      refine RW.pickC rfl rfl h3 rfl ?_
      refine RW.pickC rfl rfl rfl rfl ?_
      refine RW.assign rfl rfl ?_
      refine RW.nil (EX.seq (CW.ret ?_))
      refine EX.fin1 Try.results43 rfl (fun wz hw => ?_)
      -- mq: done
      exact ⟨_, rfl, hw.ext, _, rfl⟩
theorem zeros8 (m : Nat) : zeros [.int .u8 0] m = EU8.all (List.replicate m 0) := by
  induction m with
  | zero => rfl
  | succ m ih => rw [List.replicate_succ, zeros, ih]; rfl
theorem EU8.all_set1 {L : List UInt8} {i : Nat} {c : UInt8} (h : i < L.length) : (EU8.all L).set i (.int .u8 (c.toNat : Int)) = EU8.all (L.set i c) := by
  have := EU8.all_set (j := 0) (a' := c) (v := .int .u8 (c.toNat : Int)) (List.getElem?_eq_getElem h) (by decide) rfl
  rw [show i * EU8.sz + 0 = i from Nat.mul_one i] at this
  exact this
/-- some bytes, in new memory -/
def IsByt (w0 : World) (v : Value) (w1 : World) : Prop := ∃ A n c l, v = .slice A n c ∧ n ≤ 4 ∧ Rd EU8 w1 (fun k => w0.heap.size ≤ k) A n c l
theorem put01_c (w : World) (r : Int) : Calls Try.prog 30 [.int .i32 r].toArray w (RetA (IsByt w) w) := by
  refine calls (n := 55) Try.func30 rfl Try.ntmps30 rfl ?_
  refine CW.sub (H' := SH w [] []) ?_ (Sub.refl _) (fun x hx => SH.start' _ _ hx)
  refine CW.seq (CW.region ?_)
  refine RW.assign rfl rfl ?_
  refine RW.nil (EX.seq (CW.seq (CW.seq ?_)))
  -- mq: region
  refine CW.region ?_
  refine RW.move rfl rfl ?_
  -- mq: at
  refine RW.callA (R := fun _ v _ => IsBool v) rfl ca43 rfl (fun w' _ => scalar01_c w' r) (fun w1 w2 v hw1 he12 hw2 hlt2 hv => ?_)
  obtain ⟨b, rfl⟩ := hv
  have hx12 : Ext [] w w2 := hw1.ext.trans0 he12
  have hsz := hx12.size
  refine RW.not_ rfl rfl ?_
  refine RW.nil (EX.seq ?_)
  -- mq: cond
  first | refine CW.condD rfl (fun h1 => ?_) (fun h1 => ?_) | refine CW.cond rfl (fun h1 => ?_) (fun h1 => ?_)
  · skip
    refine CW.seq (CW.region ?_)
    refine RW.assign rfl rfl ?_
    refine RW.nil (EX.seq (CW.ret (EX.seqR ?_)))
    refine EX.fin1 Try.results30 rfl (fun wz hw => ?_)
    -- mq: done
    exact ⟨_, rfl, hx12.trans0 hw.ext, none, 0, 0, [], rfl, by decide, ⟨rfl, Nat.le_refl _, Nat.zero_le _, fun h => absurd h (by decide)⟩⟩
  · skip
    refine CW.skip (EX.seq (CW.seq (CW.region ?_)))
    refine RW.assign rfl rfl ?_
    refine RW.nil (EX.seq (CW.seq (CW.seq (CW.region ?_))))
    refine RW.buildSlc sl70 rfl rfl rfl rfl (fun g11 hg11 hf11 => ?_)
    refine RW.lenSl Try.underlying70 rfl rfl ?_
    refine RW.move rfl rfl ?_
    refine RW.nil (EX.seq (CW.block ?_))
    -- mq: loop
    refine CW.loop (ι := Nat × Nat) (fun t => [(0, .int .i32 r), (3, .int .i64 (t.2 : Int)), (11, .slice (some ⟨g11, 0, none⟩) 3 3), (12, .int .i64 3), (13, .int .i64 (t.1 : Int))]) (fun _ => SH w2 (feet []) [blk g11 [.int .i32 127, .int .i32 2047, .int .i32 65535] 21]) (fun t => t.1 ≤ 3 ∧ 1 ≤ t.2 ∧ t.2 ≤ t.1 + 1) (fun t => 3 - t.1) ?_ ?_
    · exact fun w' hw' => ⟨(0, 1), ⟨Nat.zero_le _, Nat.le_refl _, Nat.le_refl _⟩, (by repeat (first | exact Sub.nil | refine Sub.cons (by rfl) ?_)), hw'⟩
    · rintro ⟨i, n⟩ ⟨hi, hn1, hn⟩
      dsimp only at hi hn1 hn ⊢
      refine CW.seq (CW.region ?_)
      refine RW.lss rfl rfl rfl ?_
      refine RW.nil (EX.seq (CW.seq ?_))
      -- mq: cond
      first | refine CW.condD rfl (fun hlt => ?_) (fun hlt => ?_) | refine CW.cond rfl (fun hlt => ?_) (fun hlt => ?_)
      · skip
        obtain ⟨v16, hv16⟩ : ∃ v : Int, ([.int .i32 127, .int .i32 2047, .int .i32 65535] : List Value)[0 + i * 1]? = some (.int .i32 v) := by
          rcases (show i = 0 ∨ i = 1 ∨ i = 2 by omega) with rfl | rfl | rfl <;> exact ⟨_, rfl⟩
        refine CW.skip (EX.seq (CW.seq (CW.block (CW.seq (CW.region ?_)))))
        refine RW.ixAddr (q := i) sl70 rfl rfl rfl (by first | rfl | assumption) (by omega) (by omega) ?_
        refine RW.load1 sc21 rfl rfl (fun w' hw' => by rw [Addr.add_lit]; exact hw'.blk_cell Has.head hv16) ?_
        refine RW.assign rfl rfl ?_
        refine RW.nil (EX.seq (CW.seq (CW.region ?_)))
        refine RW.move rfl rfl ?_
        refine RW.move rfl rfl ?_
        refine RW.gtr rfl rfl rfl ?_
        refine RW.nil (EX.seq ?_)
        -- mq: cond
        first | refine CW.condD rfl (fun h2 => ?_) (fun h2 => ?_) | refine CW.cond rfl (fun h2 => ?_) (fun h2 => ?_)
        · skip
          refine CW.region ?_
          refine RW.move rfl rfl ?_
          refine RW.add rfl rfl rfl (wrap64 (by omega) (by omega)) ?_
          refine RW.assign rfl rfl ?_
          refine RW.nil (EX.bkN (EX.seq (CW.region ?_)))
          refine RW.add rfl rfl rfl (wrap64 (by omega) (by omega)) ?_
          refine RW.move rfl rfl ?_
          refine RW.nil ?_
          -- mq: loopend
          exact EX.lpN (i + 1, n + 1) ⟨by dsimp only; omega, by dsimp only; omega, by dsimp only; omega⟩ (by dsimp only; omega) (by repeat (first | exact Sub.nil | refine Sub.cons (by rfl) ?_)) (fun w' hw' => hw')
        · skip
          refine CW.skip (EX.bkN (EX.seq (CW.region ?_)))
          refine RW.add rfl rfl rfl (wrap64 (by omega) (by omega)) ?_
          refine RW.move rfl rfl ?_
          refine RW.nil ?_
          -- mq: loopend
          exact EX.lpN (i + 1, n) ⟨by dsimp only; omega, by dsimp only; omega, by dsimp only; omega⟩ (by dsimp only; omega) (by repeat (first | exact Sub.nil | refine Sub.cons (by rfl) ?_)) (fun w' hw' => hw')
      · skip
        have hn4 : n ≤ 4 := by omega
        refine CW.exit (EX.seqE (EX.lpE (EX.bkE (EX.seq (CW.seq (CW.seq (CW.region ?_)))))))
        refine RW.move rfl rfl ?_
        refine RW.eqlI rfl rfl rfl ?_
        refine RW.nil (EX.seq ?_)
        -- mq: cond
        first | refine CW.condD rfl (fun h3 => ?_) (fun h3 => ?_) | refine CW.cond rfl (fun h3 => ?_) (fun h3 => ?_)
        · skip
          refine CW.seq (CW.region ?_)
          refine RW.move rfl rfl ?_
          refine RW.convI rfl rfl Try.underlying21 Try.underlying5 (u8_of_int r) ?_
          refine RW.buildSlc sl59 rfl rfl rfl rfl (fun g27 hg27 hf27 => ?_)
          refine RW.assign rfl rfl ?_
          refine RW.nil (EX.seq (CW.ret (EX.seqR ?_)))
          refine EX.fin1 Try.results30 rfl (fun wz hw => ?_)
          -- mq: done
          refine ⟨_, rfl, hx12.trans0 hw.ext, some ⟨g27, 0, none⟩, 1, 1, [UInt8.ofNat (IntKind.u8.wrap r).toNat], rfl, by decide, ?_⟩
          exact (Rd.of_blk (E := EU8) (L := [UInt8.ofNat (IntKind.u8.wrap r).toNat]) hw Has.head rfl (by show 1 ≤ maxLen; decide)).weak (fun k hk => by rw [hk]; omega)
        · skip
          obtain ⟨v49, hv49⟩ : ∃ v : Int, ([.int .i32 0, .int .i32 0, .int .i32 192, .int .i32 224, .int .i32 240] : List Value)[0 + n * 1]? = some (.int .i32 v) := by
            rcases (show n = 2 ∨ n = 3 ∨ n = 4 by omega) with rfl | rfl | rfl <;> exact ⟨_, rfl⟩
          refine CW.skip (EX.seq (CW.seq ?_))
          -- mq: region
          have hn2 : (n : Int) - 1 = ((n - 1 : Nat) : Int) := by omega
          refine CW.region ?_
          refine RW.move rfl rfl ?_
          refine RW.make n sl59 rfl rfl rfl rfl (by simp only [maxLen]; omega) (by omega) (fun g hgl hgf => ?_)
          refine RW.assign rfl rfl ?_
          refine RW.nil (EX.seq (CW.seq (CW.seq ?_)))
          -- mq: region
          rw [zeros8]
          refine CW.region ?_
          refine RW.move rfl rfl ?_
          refine RW.sub_ (r := ((n - 1 : Nat) : Int)) rfl rfl rfl (by rw [wrap64 (by omega) (by omega)]; omega) ?_
          refine RW.assign rfl rfl ?_
          refine RW.nil (EX.seq (CW.block ?_))
          -- mq: loop
          refine CW.loop (ι := Nat × Int × List UInt8) (fun t => [(0, .int .i32 t.2.1), (3, .int .i64 (n : Int)), (6, .slice (some ⟨g, 0, none⟩) n n), (7, .int .i64 (t.1 : Int))]) (fun t => SH w2 (feet []) [own 5 1 (.slice (some ⟨g, 0, none⟩) n n) n (EU8.all t.2.2)]) (fun t => t.1 < n ∧ t.2.2.length = n) (fun t => t.1) ?_ ?_
          · exact fun w' hw' => ⟨(n - 1, r, List.replicate n 0), ⟨by dsimp only; omega, by simp⟩, (by repeat (first | exact Sub.nil | refine Sub.cons (by rfl) ?_)), hw'.rem (Rem.tail Rem.head)⟩
          · rintro ⟨i, q, L⟩ ⟨hi, hL⟩
            dsimp only at hi hL ⊢
            refine CW.seq (CW.seq (CW.region ?_))
            refine RW.move rfl rfl ?_
            refine RW.gtr rfl rfl rfl ?_
            refine RW.nil (EX.seq ?_)
            -- mq: cond
            first | refine CW.condD rfl (fun hgt => ?_) (fun hgt => ?_) | refine CW.cond rfl (fun hgt => ?_) (fun hgt => ?_)
            · skip
              refine CW.skip (EX.seq (CW.seq (CW.block (CW.seq ?_))))
              -- mq: region
              refine CW.region ?_
              refine RW.move rfl rfl ?_
              refine RW.move rfl rfl ?_
              refine RW.move rfl rfl ?_
              refine RW.rem rfl rfl rfl (by decide) rfl ?_
              refine RW.add rfl rfl rfl rfl ?_
              refine RW.convI rfl rfl Try.underlying21 Try.underlying5 (u8_of_int _) ?_
              refine RW.ixAddr (q := i) sl59 rfl rfl rfl (by first | rfl | assumption) (by omega) (by omega) ?_
              refine RW.storeOwn1 (o := i) sc5 rfl rfl (by first | exact Upd.head | exact Upd.tail Upd.head | exact Upd.tail (Upd.tail Upd.head) | exact Upd.tail (Upd.tail (Upd.tail Upd.head)) | exact Upd.tail (Upd.tail (Upd.tail (Upd.tail Upd.head))) | exact Upd.tail (Upd.tail (Upd.tail (Upd.tail (Upd.tail Upd.head)))) | exact Upd.tail (Upd.tail (Upd.tail (Upd.tail (Upd.tail (Upd.tail Upd.head)))))) (by rw [Addr.add_lit]; simp) rfl (by rw [EU8.all_length, hL]; show i < n * 1; omega) ?_
              refine RW.nil (EX.seq ?_)
              -- mq: region
              refine CW.region ?_
              refine RW.move rfl rfl ?_
              refine RW.quo rfl rfl rfl (by decide) rfl ?_
              refine RW.assign rfl rfl ?_
              refine RW.nil (EX.bkN (EX.seq ?_))
              -- mq: region
              refine CW.region ?_
              refine RW.move rfl rfl ?_
              refine RW.sub_ (r := ((i - 1 : Nat) : Int)) rfl rfl rfl (by rw [wrap64 (by omega) (by omega)]; omega) ?_
              refine RW.assign rfl rfl ?_
              refine RW.nil ?_
              -- mq: loopend
              refine EX.lpN (i - 1, _, L.set i (UInt8.ofNat (IntKind.u8.wrap (IntKind.i32.wrap (128 + q.tmod 64))).toNat)) ⟨by dsimp only; omega, by dsimp only; rw [List.length_set]; exact hL⟩ (by dsimp only; omega) (by repeat (first | exact Sub.nil | refine Sub.cons (by rfl) ?_)) (fun w' hw' => ?_)
              dsimp only
              rw [← EU8.all_set1 (by omega)]
              exact hw'
            · skip
              refine CW.exit (EX.seqE (EX.lpE (EX.bkE (EX.seq (CW.seq ?_)))))
              -- mq: region
              refine CW.region ?_
              refine RW.move rfl rfl ?_
              refine RW.buildSlc sl70 rfl rfl rfl rfl (fun g46 hg46 hf46 => ?_)
              refine RW.move rfl rfl ?_
              refine RW.ixAddr (q := n) sl70 rfl rfl rfl (by first | rfl | assumption) (by omega) (by omega) ?_
              refine RW.load1 sc21 rfl rfl (fun w' hw' => by rw [Addr.add_lit]; exact hw'.blk_cell Has.head hv49) ?_
              refine RW.move rfl rfl ?_
              refine RW.add rfl rfl rfl rfl ?_
              refine RW.convI rfl rfl Try.underlying21 Try.underlying5 (u8_of_int _) ?_
              refine RW.ixAddr (q := 0) sl59 rfl rfl rfl (by first | rfl | assumption) (by omega) (by omega) ?_
              refine RW.storeOwn1 (o := 0) sc5 rfl rfl (by first | exact Upd.head | exact Upd.tail Upd.head | exact Upd.tail (Upd.tail Upd.head) | exact Upd.tail (Upd.tail (Upd.tail Upd.head)) | exact Upd.tail (Upd.tail (Upd.tail (Upd.tail Upd.head))) | exact Upd.tail (Upd.tail (Upd.tail (Upd.tail (Upd.tail Upd.head)))) | exact Upd.tail (Upd.tail (Upd.tail (Upd.tail (Upd.tail (Upd.tail Upd.head)))))) (by rw [Addr.add_lit]) rfl (by rw [EU8.all_length, hL]; show 0 < n * 1; omega) ?_
              refine RW.nil (EX.seq (CW.seq (CW.region ?_)))
              refine RW.move rfl rfl ?_
              refine RW.assign rfl rfl ?_
              refine RW.nil (EX.seq (CW.ret ?_))
              refine EX.fin1 Try.results30 rfl (fun wz hw => ?_)
              -- mq: done
              refine ⟨_, rfl, hx12.trans0 hw.ext, some ⟨g, 0, none⟩, n, n, L.set 0 (UInt8.ofNat (IntKind.u8.wrap (IntKind.i32.wrap (v49 + q))).toNat), rfl, hn4, ?_⟩
              rw [EU8.all_set1 (by omega)] at hw
              have hown := hw.has (c := own 5 1 (.slice (some ⟨g, 0, none⟩) n n) n (EU8.all (L.set 0 (UInt8.ofNat (IntKind.u8.wrap (IntKind.i32.wrap (v49 + q))).toNat)))) (by first | exact Has.head | exact Has.tail Has.head)
              obtain ⟨A6, c6, he6, hrd6⟩ := Rd.of_own (E := EU8) hown (by rw [List.length_set]; exact hL)
              cases he6
              exact hrd6.weak (fun k hk => by simp [Value.ownBlock] at hk; omega)
end Go.Proofs.Ytjmmikdbhhomiaa.Mq
