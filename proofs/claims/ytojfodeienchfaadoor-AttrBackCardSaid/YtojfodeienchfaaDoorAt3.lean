/- attributes: walks of first, ref.at, most0, With, line, sets, clears, palette -/
import Derived.Test.YtojfodeienchfaaDoorAt2
import Derived.Test.YtojfodeienchfaaDoorAtG
namespace Go.Proofs.YtojfodeienchfaaDoor.Mq
open Go Go.RowKit Go.Proofs

/-- groups that are clean enough -/
def Cl (gs : List (List Int)) : Prop := gs.length ≤ 32 ∧ ∀ g ∈ gs, 1 ≤ g.length ∧ g.length ≤ 8 ∧ ∀ x ∈ g, -1 ≤ x ∧ x ≤ 65535
def v0 (g : List Int) : Int := max 0 (g.headD 0)
def firstV (gs : List (List Int)) (i : Nat) : Int := match gs[i]? with | some g => v0 g | none => 0
theorem Cl.at_ {gs : List (List Int)} (h : Cl gs) {i : Nat} {g : List Int} (hg : gs[i]? = some g) : ∃ x t, g = x :: t ∧ -1 ≤ x ∧ x ≤ 65535 ∧ t.length ≤ 7 := by
  have h1 := h.2 g (List.mem_of_getElem? hg)
  cases g with
  | nil => exact absurd h1.1 (by simp)
  | cons x t => exact ⟨x, t, rfl, (h1.2.2 x (by simp)).1, (h1.2.2 x (by simp)).2, by have := h1.2.1; simp at this; omega⟩
theorem firstV_range {gs : List (List Int)} (h : Cl gs) (i : Nat) : 0 ≤ firstV gs i ∧ firstV gs i ≤ 65535 := by
  unfold firstV
  cases hg : gs[i]? with
  | none => simp
  | some g =>
    obtain ⟨x, t, rfl, h1, h2, _⟩ := h.at_ hg
    simp only [v0, List.headD_cons]; omega
theorem first_c (w : World) (F : Nat → Prop) (A : Option Addr) (n c : Nat) (gs : List (List Int)) (hr : RdG w F A n c gs) (hc : Cl gs) (i : Nat) (hi : i ≤ 1000) :
    Calls Tryd.prog 22 [.slice A n c, .int .i64 (i : Int)].toArray w (fun e w' => e = .returned (.int .i64 (firstV gs i)) ∧ Ext [] w w') := by
  have hl := hr.len
  refine calls (n := 24) Tryd.func22 rfl Tryd.ntmps22 rfl ?_
  refine CW.sub (H' := SH w [] []) ?_ (Sub.refl _) (fun x hx => SH.start' _ _ hx)
  refine CW.seq (CW.region ?_)
  refine RW.assign rfl rfl ?_
  refine RW.nil (EX.seq (CW.seq (CW.seq (CW.region ?_))))
  refine RW.move rfl rfl ?_
  refine RW.move rfl rfl ?_
  refine RW.lenSl Tryd.underlying28 rfl rfl ?_
  refine RW.geq rfl rfl rfl ?_
  refine RW.move rfl rfl ?_
  -- mq: guard slot 9
  refine RW.casesB 9 rfl (fun h1 => ?_) (fun h1 => ?_)
  · skip
    have h1p := of_decide_eq_true h1
    refine RW.guardF rfl rfl rfl h1 ?_
    refine RW.guardF rfl rfl rfl h1 ?_
    refine RW.guardF rfl rfl rfl h1 ?_
    refine RW.guardF rfl rfl rfl h1 ?_
    refine RW.guardF rfl rfl rfl h1 ?_
    refine RW.guardF rfl rfl rfl h1 ?_
    refine RW.pickB rfl rfl h1 rfl ?_
    refine RW.nil (EX.seq ?_)
    -- mq: cond
    refine CW.condT rfl (rfl) ?_
    refine CW.seq (CW.region ?_)
    refine RW.assign rfl rfl ?_
    refine RW.nil (EX.seq (CW.ret (EX.seqR ?_)))
    refine EX.fin1 Tryd.results22 rfl (fun wz hw => ?_)
    -- mq: done
    exact ⟨by rw [firstV, List.getElem?_eq_none (by omega)], hw.ext⟩
  · skip
    have h1p := of_decide_eq_false h1
    obtain ⟨g, hg⟩ : ∃ g, gs[i]? = some g := ⟨gs[i]'(by omega), List.getElem?_eq_getElem _⟩
    obtain ⟨ad, X, p, q, hA, _, hcell, hrd⟩ := hr.at_ hg
    obtain ⟨y, t, rfl, hy1, hy2, ht⟩ := hc.at_ hg
    have hp := hrd.len
    simp only [List.length_cons] at hp
    obtain ⟨yd, hB, _, hycell⟩ := hrd.at_ (k := 0) rfl
    refine RW.guardT rfl rfl h1 ?_
    refine RW.move rfl rfl ?_
    refine RW.guardT rfl rfl h1 ?_
    refine RW.move rfl rfl ?_
    refine RW.guardT rfl rfl h1 ?_
    refine RW.ixAddr (q := i) sl28 rfl rfl rfl (by first | rfl | assumption) (by omega) (by omega) ?_
    refine RW.guardT rfl rfl h1 ?_
    refine RW.load1 sc40 rfl rfl (fun w' hw' => hw'.base_cell hcell (by simp [feet])) ?_
    refine RW.guardT rfl rfl h1 ?_
    refine RW.lenSl Tryd.underlying40 rfl rfl ?_
    refine RW.guardT rfl rfl h1 ?_
    refine RW.eqlI rfl rfl rfl ?_
    refine RW.pickC rfl rfl h1 rfl ?_
    refine RW.nil (EX.seq ?_)
    -- mq: cond
    refine CW.condF rfl ((decide_eq_false (by omega))) ?_
    refine CW.skip (EX.seq (CW.seq (CW.region ?_)))
    refine RW.move rfl rfl ?_
    refine RW.move rfl rfl ?_
    refine RW.ixAddr (q := i) sl28 rfl rfl rfl (by first | rfl | assumption) (by omega) (by omega) ?_
    refine RW.load1 sc40 rfl rfl (fun w' hw' => hw'.base_cell hcell (by simp [feet])) ?_
    refine RW.ixAddr (q := 0) sl40 rfl rfl rfl (by first | rfl | assumption) (by omega) (by omega) ?_
    refine RW.load1 sc3 rfl rfl (fun w' hw' => hw'.base_cell (hycell 0 _ rfl) (by simp [feet])) ?_
    refine RW.max2 rfl rfl rfl ?_
    refine RW.assign rfl rfl ?_
    refine RW.nil (EX.seq (CW.ret ?_))
    refine EX.fin1 Tryd.results22 rfl (fun wz hw => ?_)
    -- mq: done
    exact ⟨by rw [firstV, hg]; rfl, hw.ext⟩
theorem at_c (w : World) (F : Nat → Prop) (A : Option Addr) (n c : Nat) (gs : List (List Int)) (hr : RdG w F A n c gs) (hc : Cl gs) (i : Nat) (hi : i ≤ 1000) :
    Calls Tryd.prog 27 [.slice A n c, .int .i64 (i : Int)].toArray w (fun e w' => e = .returned (.tuple #[.int .i64 (firstV gs i), .bool (decide (i < gs.length))]) ∧ Ext [] w w') := by
  have hl := hr.len
  refine calls (n := 23) Tryd.func27 rfl Tryd.ntmps27 rfl ?_
  refine CW.sub (H' := SH w [] []) ?_ (Sub.refl _) (fun x hx => SH.start' _ _ hx)
  refine CW.seq (CW.region ?_)
  refine RW.assign rfl rfl ?_
  refine RW.assign rfl rfl ?_
  refine RW.nil (EX.seq (CW.seq (CW.seq (CW.region ?_))))
  refine RW.move rfl rfl ?_
  refine RW.move rfl rfl ?_
  refine RW.lenSl Tryd.underlying28 rfl rfl ?_
  refine RW.geq rfl rfl rfl ?_
  refine RW.nil (EX.seq ?_)
  -- mq: cond
  first | refine CW.condD rfl (fun h1 => ?_) (fun h1 => ?_) | refine CW.cond rfl (fun h1 => ?_) (fun h1 => ?_)
  · skip
    refine CW.seq (CW.region ?_)
    refine RW.assign rfl rfl ?_
    refine RW.assign rfl rfl ?_
    refine RW.nil (EX.seq (CW.ret (EX.seqR ?_)))
    refine EX.fin2 Tryd.results27 rfl rfl (fun wz hw => ?_)
    -- mq: done
    exact ⟨by rw [firstV, List.getElem?_eq_none (by omega), decide_eq_false (by omega)], hw.ext⟩
  · skip
    obtain ⟨g, hg⟩ : ∃ g, gs[i]? = some g := ⟨gs[i]'(by omega), List.getElem?_eq_getElem _⟩
    obtain ⟨ad, X, p, q, hA, _, hcell, hrd⟩ := hr.at_ hg
    obtain ⟨y, t, rfl, hy1, hy2, ht⟩ := hc.at_ hg
    have hp := hrd.len
    simp only [List.length_cons] at hp
    obtain ⟨yd, hB, _, hycell⟩ := hrd.at_ (k := 0) rfl
    refine CW.skip (EX.seq (CW.seq (CW.seq (CW.region ?_))))
    refine RW.move rfl rfl ?_
    refine RW.move rfl rfl ?_
    refine RW.ixAddr (q := i) sl28 rfl rfl rfl (by first | rfl | assumption) (by omega) (by omega) ?_
    refine RW.load1 sc40 rfl rfl (fun w' hw' => hw'.base_cell hcell (by simp [feet])) ?_
    refine RW.ixAddr (q := 0) sl40 rfl rfl rfl (by first | rfl | assumption) (by omega) (by omega) ?_
    refine RW.load1 sc3 rfl rfl (fun w' hw' => hw'.base_cell (hycell 0 _ rfl) (by simp [feet])) ?_
    refine RW.lss rfl rfl rfl ?_
    refine RW.nil (EX.seq ?_)
    -- mq: cond
    first | refine CW.condD rfl (fun h2 => ?_) (fun h2 => ?_) | refine CW.cond rfl (fun h2 => ?_) (fun h2 => ?_)
    · skip
      refine CW.seq (CW.region ?_)
      refine RW.assign rfl rfl ?_
      refine RW.assign rfl rfl ?_
      refine RW.nil (EX.seq (CW.ret (EX.seqR ?_)))
      refine EX.fin2 Tryd.results27 rfl rfl (fun wz hw => ?_)
      -- mq: done
      refine ⟨?_, hw.ext⟩
      rw [firstV, hg, decide_eq_true (by omega)]
      simp only [v0, List.headD_cons]
      rw [show max 0 y = 0 by omega]
    · skip
      refine CW.skip (EX.seq (CW.seq (CW.region ?_)))
      refine RW.move rfl rfl ?_
      refine RW.move rfl rfl ?_
      refine RW.ixAddr (q := i) sl28 rfl rfl rfl (by first | rfl | assumption) (by omega) (by omega) ?_
      refine RW.load1 sc40 rfl rfl (fun w' hw' => hw'.base_cell hcell (by simp [feet])) ?_
      refine RW.ixAddr (q := 0) sl40 rfl rfl rfl (by first | rfl | assumption) (by omega) (by omega) ?_
      refine RW.load1 sc3 rfl rfl (fun w' hw' => hw'.base_cell (hycell 0 _ rfl) (by simp [feet])) ?_
      refine RW.assign rfl rfl ?_
      refine RW.assign rfl rfl ?_
      refine RW.nil (EX.seq (CW.ret ?_))
      refine EX.fin2 Tryd.results27 rfl rfl (fun wz hw => ?_)
      -- mq: done
      refine ⟨?_, hw.ext⟩
      rw [firstV, hg, decide_eq_true (by omega)]
      simp only [v0, List.headD_cons]
      rw [show max 0 y = y by omega]
theorem most0_c (w : World) (n : Int) : Calls Tryd.prog 38 [.int .i64 n].toArray w (fun e w' => e = .returned (.int .i64 (max 0 n)) ∧ Ext [] w w') := by
  refine calls (n := 6) Tryd.func38 rfl Tryd.ntmps38 rfl ?_
  refine CW.sub (H' := SH w [] []) ?_ (Sub.refl _) (fun x hx => SH.start' _ _ hx)
  refine CW.seq (CW.region ?_)
  refine RW.assign rfl rfl ?_
  refine RW.nil (EX.seq (CW.seq (CW.seq (CW.region ?_))))
  refine RW.move rfl rfl ?_
  refine RW.lss rfl rfl rfl ?_
  refine RW.nil (EX.seq ?_)
  -- mq: cond
  first | refine CW.condD rfl (fun h => ?_) (fun h => ?_) | refine CW.cond rfl (fun h => ?_) (fun h => ?_)
  · skip
    refine CW.seq (CW.region ?_)
    refine RW.assign rfl rfl ?_
    refine RW.nil (EX.seq (CW.ret (EX.seqR ?_)))
    refine EX.fin1 Tryd.results38 rfl (fun wz hw => ?_)
    -- mq: done
    exact ⟨by rw [show max 0 n = 0 by omega], hw.ext⟩
  · skip
    refine CW.skip (EX.seq (CW.seq (CW.region ?_)))
    refine RW.move rfl rfl ?_
    refine RW.assign rfl rfl ?_
    refine RW.nil (EX.seq (CW.ret ?_))
    refine EX.fin1 Tryd.results38 rfl (fun wz hw => ?_)
    -- mq: done
    exact ⟨by rw [show max 0 n = n by omega], hw.ext⟩
def withF (n f : Nat) (on : Bool) : Nat := if hasF n f = on then n else if on = true then n + f else n - f
theorem has_le {n f : Nat} (h : hasF n f = true) : f ≤ n := by
  unfold hasF at h
  have h := of_decide_eq_true h
  rcases Nat.lt_or_ge n f with hl | hl
  · rw [Nat.div_eq_of_lt hl] at h; cases h
  · exact hl
theorem with_c (w : World) (n f : Nat) (hn : n ≤ 1000000) (hf : 0 < f ∧ f ≤ 1000) (on : Bool) : Calls Tryd.prog 29 [.int .i64 (n : Int), .int .i64 (f : Int), .bool on].toArray w (fun e w' => e = .returned (.int .i64 (withF n f on : Int)) ∧ Ext [] w w') := by
  refine calls (n := 20) Tryd.func29 rfl Tryd.ntmps29 rfl ?_
  refine CW.sub (H' := SH w [] []) ?_ (Sub.refl _) (fun x hx => SH.start' _ _ hx)
  refine CW.seq (CW.region ?_)
  refine RW.assign rfl rfl ?_
  refine RW.nil (EX.seq (CW.seq (CW.seq (CW.region ?_))))
  refine RW.move rfl rfl ?_
  refine RW.move rfl rfl ?_
  -- mq: op 2: ('Op.call', ('Call.mk', ('Callee.value', ('Operand.func', '21')), ('arr', ('Operand.tmp', '7'), ('Operand.tmp', '8')), ('arr', '3', '3'))) -> slot 9 ("ref.go:25")
  refine RW.call rfl ca21 rfl (fun w' _ => has_c w' n f (by omega) hf.1) ?_
  refine RW.move rfl rfl ?_
  refine RW.eqlB Tryd.underlying4 rfl rfl rfl ?_
  refine RW.nil (EX.seq ?_)
  -- mq: cond
  first | refine CW.condD rfl (fun h => ?_) (fun h => ?_) | refine CW.cond rfl (fun h => ?_) (fun h => ?_)
  · skip
    refine CW.seq (CW.region ?_)
    refine RW.move rfl rfl ?_
    refine RW.assign rfl rfl ?_
    refine RW.nil (EX.seq (CW.ret (EX.seqR ?_)))
    refine EX.fin1 Tryd.results29 rfl (fun wz hw => ?_)
    -- mq: done
    exact ⟨by rw [withF, if_pos (by simpa using h)], hw.ext⟩
  · skip
    have h2 : ¬ hasF n f = on := by simpa using h
    refine CW.skip (EX.seq (CW.seq (CW.seq (CW.region ?_))))
    refine RW.move rfl rfl ?_
    refine RW.nil (EX.seq ?_)
    -- mq: cond
    first | refine CW.condD rfl (fun h3 => ?_) (fun h3 => ?_) | refine CW.cond rfl (fun h3 => ?_) (fun h3 => ?_)
    · skip
      refine CW.seq (CW.region ?_)
      refine RW.move rfl rfl ?_
      refine RW.move rfl rfl ?_
      refine RW.add rfl rfl rfl (wrap64 (by omega) (by omega)) ?_
      refine RW.assign rfl rfl ?_
      refine RW.nil (EX.seq (CW.ret (EX.seqR ?_)))
      refine EX.fin1 Tryd.results29 rfl (fun wz hw => ?_)
      -- mq: done
      exact ⟨by rw [withF, if_neg h2, if_pos h3]; rfl, hw.ext⟩
    · skip
      have h4 : hasF n f = true := by
        cases hh : hasF n f with
        | true => rfl
        | false => exact absurd (hh.trans (by simpa using h3)) (by rw [hh] at h2; simp_all)
      have h5 := has_le h4
      refine CW.skip (EX.seq (CW.seq (CW.region ?_)))
      refine RW.move rfl rfl ?_
      refine RW.move rfl rfl ?_
      refine RW.sub_ rfl rfl rfl (wrap64 (by omega) (by omega)) ?_
      refine RW.assign rfl rfl ?_
      refine RW.nil (EX.seq (CW.ret ?_))
      refine EX.fin1 Tryd.results29 rfl (fun wz hw => ?_)
      -- mq: done
      exact ⟨by rw [withF, if_neg h2, if_neg (by simp [h3]), Int.ofNat_sub h5], hw.ext⟩
end Go.Proofs.YtojfodeienchfaaDoor.Mq
