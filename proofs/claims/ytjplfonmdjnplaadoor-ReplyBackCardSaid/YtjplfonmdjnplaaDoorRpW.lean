/- reply: walks of ReplyPlaces, ReplyApart -/
import Derived.Test.YtjplfonmdjnplaaDoorRp1
namespace Go.Proofs.YtjplfonmdjnplaaDoor.Mq
open Go Go.RowKit Go.Proofs

theorem split_eq {s : UInt8} : ∀ (a b : List UInt8) {c d : List UInt8}, (∀ x ∈ a, x ≠ s) → (∀ x ∈ b, x ≠ s) → a ++ s :: c = b ++ s :: d → a = b ∧ c = d
  | [], [], _, _, _, _, h => ⟨rfl, by simpa using h⟩
  | [], y :: b, _, _, _, hb, h => by
    simp only [List.nil_append, List.cons_append, List.cons.injEq] at h
    exact absurd h.1.symm (hb y (by simp))
  | x :: a, [], _, _, ha, _, h => by
    simp only [List.nil_append, List.cons_append, List.cons.injEq] at h
    exact absurd h.1 (ha x (by simp))
  | x :: a, y :: b, _, _, ha, hb, h => by
    simp only [List.cons_append, List.cons.injEq] at h
    obtain ⟨h1, h2⟩ := split_eq a b (fun z hz => ha z (by simp [hz])) (fun z hz => hb z (by simp [hz])) h.2
    exact ⟨by rw [h.1, h1], h2⟩
theorem dec_not {u : Nat} {s : UInt8} (hs : s.toNat < 48 ∨ 57 < s.toNat) : ∀ x ∈ Lib.decDigits u, x ≠ s := fun x hx e => by
  have := dec_digit u x hx
  subst e
  omega
theorem curT_inj {p : Bool} {y x v u : Nat} : curT p y x = curT p v u ↔ y = v ∧ x = u := by
  constructor
  · intro h
    simp only [curT, List.append_assoc, List.append_cancel_left_eq] at h
    have h1 := split_eq (s := 59) _ _ (dec_not (by decide)) (dec_not (by decide)) (by simpa using h)
    have h2 := dec_inj h1.1
    have h3 : Lib.decDigits (x + 1) = Lib.decDigits (u + 1) := by
      have := h1.2
      exact List.append_cancel_right (bs := [82]) (by simpa using this)
    have h4 := dec_inj h3
    omega
  · rintro ⟨rfl, rfl⟩; rfl
theorem szT_inj {y x v u : Nat} : szT y x = szT v u ↔ y = v ∧ x = u := by
  constructor
  · intro h
    simp only [szT, List.append_assoc, List.append_cancel_left_eq] at h
    have h1 := split_eq (s := 59) _ _ (dec_not (by decide)) (dec_not (by decide)) (by simpa using h)
    have h2 := dec_inj h1.1
    have h3 : Lib.decDigits x = Lib.decDigits u := by
      have := h1.2
      exact List.append_cancel_right (bs := [116]) (by simpa using this)
    have h4 := dec_inj h3
    exact ⟨h2, h4⟩
  · rintro ⟨rfl, rfl⟩; rfl
theorem curT_mark (y x v u : Nat) : curT true y x ≠ curT false v u := by
  intro h
  simp only [curT, List.append_assoc, List.append_cancel_left_eq] at h
  obtain ⟨c, l, hc⟩ : ∃ c l, Lib.decDigits (v + 1) = c :: l := by
    cases hd : Lib.decDigits (v + 1) with
    | nil => exact absurd hd (dec_ne _)
    | cons c l => exact ⟨c, l, rfl⟩
  have h1 := dec_digit (v + 1) c (by rw [hc]; simp)
  rw [hc] at h
  simp at h
  have := h.1
  rw [← this] at h1
  revert h1
  decide
theorem places_c (w : World) (hg : Gl w) (y x : Int) (p : Bool) : Calls Tryd.prog 3 [.int .i64 y, .int .i64 x, .bool p].toArray w (fun e w' => e = .returned (.bool true) ∧ Ext [] w w') := by
  refine calls (n := 28) Tryd.func3 rfl Tryd.ntmps3 rfl ?_
  refine CW.sub (H' := SH w [] []) ?_ (Sub.refl _) (fun x hx => SH.start' _ _ hx)
  refine CW.seq (CW.region ?_)
  refine RW.assign rfl rfl ?_
  refine RW.nil (EX.seq (CW.seq ?_))
  -- mq: region
  refine CW.region ?_
  refine RW.move rfl rfl ?_
  refine RW.move rfl rfl ?_
  refine RW.move rfl rfl ?_
  refine RW.call rfl ca8 rfl (fun w' hw' => cursor_c w' (hg.ext hw'.ext) y x p) ?_
  refine RW.move rfl rfl ?_
  refine RW.move rfl rfl ?_
  refine RW.move rfl rfl ?_
  refine RW.call rfl ca9 rfl (fun w' hw' => refCursor_c w' y x p) ?_
  refine RW.eqlS rfl rfl rfl ?_
  refine RW.move rfl rfl ?_
  refine RW.guardT rfl rfl (by simp) ?_
  refine RW.move rfl rfl ?_
  refine RW.guardT rfl rfl (by simp) ?_
  refine RW.move rfl rfl ?_
  refine RW.guardT rfl rfl (by simp) ?_
  refine RW.call rfl ca10 rfl (fun w' hw' => size_c w' (hg.ext hw'.ext) y x) ?_
  refine RW.guardT rfl rfl (by simp) ?_
  refine RW.move rfl rfl ?_
  refine RW.guardT rfl rfl (by simp) ?_
  refine RW.move rfl rfl ?_
  refine RW.guardT rfl rfl (by simp) ?_
  refine RW.call rfl ca11 rfl (fun w' hw' => refSize_c w' y x) ?_
  refine RW.guardT rfl rfl (by simp) ?_
  refine RW.eqlS rfl rfl rfl ?_
  refine RW.pickB rfl rfl (by simp) rfl ?_
  refine RW.move rfl rfl ?_
  refine RW.guardT rfl rfl (by simp) ?_
  refine RW.call rfl ca12 rfl (fun w' hw' => awake_c w' (hg.ext hw'.ext)) ?_
  refine RW.pickB rfl rfl (by simp) rfl ?_
  refine RW.assign rfl rfl ?_
  refine RW.nil (EX.seq (CW.ret ?_))
  refine EX.fin1 Tryd.results3 rfl (fun wz hw => ?_)
  -- mq: done
  exact ⟨rfl, hw.ext⟩
theorem eq_law {A P : Prop} [Decidable A] [Decidable P] (h : A ↔ P) : (decide A == decide P) = true := by
  by_cases hp : P
  · rw [decide_eq_true (h.2 hp), decide_eq_true hp]; rfl
  · rw [decide_eq_false (fun ha => hp (h.1 ha)), decide_eq_false hp]; rfl
theorem apart_c (w : World) (hg : Gl w) (a b c d : Nat) (ha : a < 65536) (hb : b < 65536) (hc : c < 65536) (hd : d < 65536) : Calls Tryd.prog 4 [.agg [Value.int .u16 (a : Int), .int .u16 (b : Int)].toArray, .agg [Value.int .u16 (c : Int), .int .u16 (d : Int)].toArray].toArray w (fun e w' => e = .returned (.bool true) ∧ Ext [] w w') := by
  have ey : ∀ q : Nat, ((q : Int) % 1000) = ((q % 1000 : Nat) : Int) := fun q => by omega
  have es : ∀ q : Nat, sideN ((q % 1000 : Nat) : Int) = q % 1000 := fun q => sideN_id (by omega)
  refine calls (n := 66) Tryd.func4 rfl Tryd.ntmps4 rfl ?_
  refine CW.sub (H' := SH w [] []) ?_ (Sub.refl _) (fun x hx => SH.start' _ _ hx)
  refine CW.seq (CW.region ?_)
  refine RW.boxA rfl rfl (fun g2 hg2 hf2 => ?_)
  refine RW.boxA rfl rfl (fun g3 hg3 hf3 => ?_)
  refine RW.assign rfl rfl ?_
  refine RW.nil (EX.seq (CW.seq ?_))
  -- mq: region
  refine CW.drawq mixed (by kernel_rfl) (fun _ hw => hw.drew) ?_
  refine DRq.cons rfl (RW.ixArr (q := 0) Tryd.underlying27 ar27 rfl rfl rfl (by omega) (by omega) RW.jn) ?_
  refine DRq.cons rfl (RW.load1 sc26 rfl rfl (fun w' hw' => hw'.blk_cell (o := 0) (Has.tail Has.head) rfl) RW.jn) ?_
  refine DRq.cons rfl (RW.remN rfl rfl rfl (by omega) (by omega) RW.jn) ?_
  refine DRq.cons rfl (RW.convI rfl rfl Tryd.underlying26 Tryd.underlying3 (wrap64 (by omega) (by omega)) RW.jn) ?_
  refine DRq.cons rfl (RW.ixArr (q := 1) Tryd.underlying27 ar27 rfl rfl rfl (by omega) (by omega) RW.jn) ?_
  refine DRq.cons rfl (RW.load1 sc26 rfl rfl (fun w' hw' => hw'.blk_cell (o := 1) (Has.tail Has.head) rfl) RW.jn) ?_
  refine DRq.cons rfl (RW.remN rfl rfl rfl (by omega) (by omega) RW.jn) ?_
  refine DRq.cons rfl (RW.convI rfl rfl Tryd.underlying26 Tryd.underlying3 (wrap64 (by omega) (by omega)) RW.jn) ?_
  refine DRq.cons rfl (RW.ixArr (q := 0) Tryd.underlying27 ar27 rfl rfl rfl (by omega) (by omega) RW.jn) ?_
  refine DRq.cons rfl (RW.load1 sc26 rfl rfl (fun w' hw' => hw'.blk_cell (o := 0) Has.head rfl) RW.jn) ?_
  refine DRq.cons rfl (RW.remN rfl rfl rfl (by omega) (by omega) RW.jn) ?_
  refine DRq.cons rfl (RW.convI rfl rfl Tryd.underlying26 Tryd.underlying3 (wrap64 (by omega) (by omega)) RW.jn) ?_
  refine DRq.cons rfl (RW.ixArr (q := 1) Tryd.underlying27 ar27 rfl rfl rfl (by omega) (by omega) RW.jn) ?_
  refine DRq.cons rfl (RW.load1 sc26 rfl rfl (fun w' hw' => hw'.blk_cell (o := 1) Has.head rfl) RW.jn) ?_
  refine DRq.cons rfl (RW.remN rfl rfl rfl (by omega) (by omega) RW.jn) ?_
  refine DRq.cons rfl (RW.convI rfl rfl Tryd.underlying26 Tryd.underlying3 (wrap64 (by omega) (by omega)) RW.jn) ?_
  refine DRq.cons rfl (RW.assign rfl rfl RW.jn) ?_
  refine DRq.cons rfl (RW.assign rfl rfl RW.jn) ?_
  refine DRq.cons rfl (RW.assign rfl rfl RW.jn) ?_
  refine DRq.cons rfl (RW.assign rfl rfl RW.jn) ?_
  refine DRq.nil (EX.seq (CW.seq ?_))
  -- mq: region
  rw [ey a, ey b, ey c, ey d]
  have hA := es a
  have hB := es b
  have hC := es c
  have hD := es d
  generalize a % 1000 = y at *
  generalize b % 1000 = x at *
  generalize c % 1000 = v at *
  generalize d % 1000 = u at *
  refine CW.join ([(5, .int .i64 (y : Int)), (6, .int .i64 (x : Int)), (7, .int .i64 (v : Int)), (8, .int .i64 (u : Int)), (9, .bool (decide (y = v ∧ x = u)))]) (SH w [] []) ?_ ?_
  · skip
    refine CW.region ?_
    refine RW.move rfl rfl ?_
    refine RW.move rfl rfl ?_
    refine RW.eqlI rfl rfl rfl ?_
    refine RW.move rfl rfl ?_
    -- mq: guard slot 29
    refine RW.casesB 29 rfl (fun h1 => ?_) (fun h1 => ?_)
    · skip
      have h1p := of_decide_eq_true h1
      refine RW.guardT rfl rfl h1 ?_
      refine RW.move rfl rfl ?_
      refine RW.guardT rfl rfl h1 ?_
      refine RW.move rfl rfl ?_
      refine RW.guardT rfl rfl h1 ?_
      refine RW.eqlI rfl rfl rfl ?_
      refine RW.pickB rfl rfl h1 rfl ?_
      refine RW.assign rfl rfl ?_
      refine RW.nil ?_
      -- mq: joinend
      refine EX.jn (Sub.cons (by rfl) (Sub.cons (by rfl) (Sub.cons (by rfl) (Sub.cons (by rfl) (Sub.cons ?_ Sub.nil))))) (fun _ h => (h.rem Rem.head).rem Rem.head)
      show some (Value.bool (decide ((x : Int) = (u : Int)))) = _
      congr 2
      exact decide_eq_decide.2 (by omega)
    · skip
      have h1p := of_decide_eq_false h1
      refine RW.guardF rfl rfl rfl h1 ?_
      refine RW.guardF rfl rfl rfl h1 ?_
      refine RW.guardF rfl rfl rfl h1 ?_
      refine RW.pickC rfl rfl h1 rfl ?_
      refine RW.assign rfl rfl ?_
      refine RW.nil ?_
      -- mq: joinend
      refine EX.jn (Sub.cons (by rfl) (Sub.cons (by rfl) (Sub.cons (by rfl) (Sub.cons (by rfl) (Sub.cons ?_ Sub.nil))))) (fun _ h => (h.rem Rem.head).rem Rem.head)
      show some (Value.bool false) = _
      congr 2
      exact (decide_eq_false (by omega)).symm
  · skip
    refine EX.seq (CW.seq ?_)
    -- mq: region
    refine CW.region ?_
    refine RW.move rfl rfl ?_
    refine RW.move rfl rfl ?_
    refine RW.call rfl ca8 rfl (fun w' hw' => cursor_c w' (hg.ext hw'.ext) y x false) ?_
    refine RW.move rfl rfl ?_
    refine RW.move rfl rfl ?_
    refine RW.call rfl ca8 rfl (fun w' hw' => cursor_c w' (hg.ext hw'.ext) v u false) ?_
    refine RW.eqlS rfl rfl rfl ?_
    refine RW.move rfl rfl ?_
    refine RW.eqlB Tryd.underlying4 rfl rfl rfl ?_
    refine RW.move rfl rfl ?_
    refine RW.guardT rfl rfl (by rw [hA, hB, hC, hD]; exact eq_law curT_inj) ?_
    refine RW.move rfl rfl ?_
    refine RW.guardT rfl rfl (by rw [hA, hB, hC, hD]; exact eq_law curT_inj) ?_
    refine RW.move rfl rfl ?_
    refine RW.guardT rfl rfl (by rw [hA, hB, hC, hD]; exact eq_law curT_inj) ?_
    refine RW.call rfl ca10 rfl (fun w' hw' => size_c w' (hg.ext hw'.ext) y x) ?_
    refine RW.guardT rfl rfl (by rw [hA, hB, hC, hD]; exact eq_law curT_inj) ?_
    refine RW.move rfl rfl ?_
    refine RW.guardT rfl rfl (by rw [hA, hB, hC, hD]; exact eq_law curT_inj) ?_
    refine RW.move rfl rfl ?_
    refine RW.guardT rfl rfl (by rw [hA, hB, hC, hD]; exact eq_law curT_inj) ?_
    refine RW.call rfl ca10 rfl (fun w' hw' => size_c w' (hg.ext hw'.ext) v u) ?_
    refine RW.guardT rfl rfl (by rw [hA, hB, hC, hD]; exact eq_law curT_inj) ?_
    refine RW.eqlS rfl rfl rfl ?_
    refine RW.guardT rfl rfl (by rw [hA, hB, hC, hD]; exact eq_law curT_inj) ?_
    refine RW.move rfl rfl ?_
    refine RW.guardT rfl rfl (by rw [hA, hB, hC, hD]; exact eq_law curT_inj) ?_
    refine RW.eqlB Tryd.underlying4 rfl rfl rfl ?_
    refine RW.pickB rfl rfl (by rw [hA, hB, hC, hD]; exact eq_law curT_inj) rfl ?_
    refine RW.move rfl rfl ?_
    refine RW.guardT rfl rfl (by rw [hA, hB, hC, hD]; exact eq_law szT_inj) ?_
    refine RW.move rfl rfl ?_
    refine RW.guardT rfl rfl (by rw [hA, hB, hC, hD]; exact eq_law szT_inj) ?_
    refine RW.move rfl rfl ?_
    refine RW.guardT rfl rfl (by rw [hA, hB, hC, hD]; exact eq_law szT_inj) ?_
    refine RW.call rfl ca8 rfl (fun w' hw' => cursor_c w' (hg.ext hw'.ext) y x true) ?_
    refine RW.guardT rfl rfl (by rw [hA, hB, hC, hD]; exact eq_law szT_inj) ?_
    refine RW.move rfl rfl ?_
    refine RW.guardT rfl rfl (by rw [hA, hB, hC, hD]; exact eq_law szT_inj) ?_
    refine RW.move rfl rfl ?_
    refine RW.guardT rfl rfl (by rw [hA, hB, hC, hD]; exact eq_law szT_inj) ?_
    refine RW.call rfl ca8 rfl (fun w' hw' => cursor_c w' (hg.ext hw'.ext) v u false) ?_
    refine RW.guardT rfl rfl (by rw [hA, hB, hC, hD]; exact eq_law szT_inj) ?_
    refine RW.neqS rfl rfl rfl ?_
    refine RW.pickB rfl rfl (by rw [hA, hB, hC, hD]; exact eq_law szT_inj) rfl ?_
    refine RW.move rfl rfl ?_
    refine RW.guardT rfl rfl (by simp [curT_mark]) ?_
    refine RW.call rfl ca12 rfl (fun w' hw' => awake_c w' (hg.ext hw'.ext)) ?_
    refine RW.pickB rfl rfl (by simp [curT_mark]) rfl ?_
    refine RW.assign rfl rfl ?_
    refine RW.nil (EX.seq (CW.ret ?_))
    refine EX.fin1 Tryd.results4 rfl (fun wz hw => ?_)
    -- mq: done
    exact ⟨rfl, hw.ext⟩
end Go.Proofs.YtjplfonmdjnplaaDoor.Mq
