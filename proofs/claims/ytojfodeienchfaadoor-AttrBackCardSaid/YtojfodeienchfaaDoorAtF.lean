/- attributes: the walk of ref.extended -/
import Derived.Test.YtojfodeienchfaaDoorAtC
namespace Go.Proofs.YtojfodeienchfaaDoor.Mq
open Go Go.RowKit Go.Proofs

def extC (gs : List (List Int)) (i : Nat) : Int × Int := if 1 < (gs.getD i []).length then (insF (gs.getD i [])).getD (0, 0) else if firstV gs (i + 1) = 5 then (1, firstV gs (i + 2)) else if firstV gs (i + 1) = 2 then (2, 65536 * firstV gs (i + 2) + 256 * firstV gs (i + 3) + firstV gs (i + 4)) else (0, 0)
def extN (gs : List (List Int)) (i : Nat) : Nat := if 1 < (gs.getD i []).length then i + 1 else if firstV gs (i + 1) = 5 then i + 3 else if firstV gs (i + 1) = 2 then i + 5 else i + 2
def extB (gs : List (List Int)) (i : Nat) : Bool := if 1 < (gs.getD i []).length then (insF (gs.getD i [])).isSome else if firstV gs (i + 1) = 5 then decide (i + 2 < gs.length ∧ firstV gs (i + 2) < 256) else if firstV gs (i + 1) = 2 then decide (i + 2 < gs.length ∧ i + 3 < gs.length ∧ i + 4 < gs.length ∧ firstV gs (i + 2) < 256 ∧ firstV gs (i + 3) < 256 ∧ firstV gs (i + 4) < 256) else false
theorem accF1 (x : Int) : accF [x] = (max 0 x).toNat := by simp [accF]
theorem accF3 (x y z : Int) : accF [x, y, z] = ((max 0 x).toNat * 256 + (max 0 y).toNat) * 256 + (max 0 z).toNat := by simp [accF]
theorem b3_1 {x : Int} (h : x ≤ 255) : b3 [x] = some (1, max 0 x) := by
  rw [b3, if_pos (by simpa using h), if_pos (by rfl), accF1]
  congr 2; omega
theorem b3_1n {x : Int} (h : ¬ x ≤ 255) : b3 [x] = none := by
  rw [b3, if_neg (by simpa using h)]
theorem b3_3 {x y z : Int} (hx : x ≤ 255) (hy : y ≤ 255) (hz : z ≤ 255) : b3 [x, y, z] = some (2, 65536 * max 0 x + 256 * max 0 y + max 0 z) := by
  rw [b3, if_pos (by simp; omega), if_neg (by simp), accF3]
  congr 2; omega
theorem b3_3n {x y z : Int} (h : ¬ (x ≤ 255 ∧ y ≤ 255 ∧ z ≤ 255)) : b3 [x, y, z] = none := by
  rw [b3, if_neg (by simpa using h)]
theorem drop3 {g : List Int} {n : Nat} (hl : g.length = n) (h : 3 ≤ n) : g.drop (n - 3) = [g.getD (n - 3) 0, g.getD (n - 2) 0, g.getD (n - 1) 0] := by
  refine List.ext_getElem? fun k => ?_
  rw [List.getElem?_drop]
  match k with
  | 0 => simp [List.getD_eq_getElem?_getD, List.getElem?_eq_getElem (show n - 3 < g.length by omega)]
  | 1 => simp [List.getD_eq_getElem?_getD, show n - 3 + 1 = n - 2 by omega, List.getElem?_eq_getElem (show n - 2 < g.length by omega)]
  | 2 => simp [List.getD_eq_getElem?_getD, show n - 3 + 2 = n - 1 by omega, List.getElem?_eq_getElem (show n - 1 < g.length by omega)]
  | k + 3 => rw [List.getElem?_eq_none (by omega)]; simp
theorem drop2 {g : List Int} (hl : g.length = 3) : g.drop 2 = [g.getD 2 0] := by
  refine List.ext_getElem? fun k => ?_
  rw [List.getElem?_drop]
  match k with
  | 0 => simp [List.getD_eq_getElem?_getD, List.getElem?_eq_getElem (show 2 < g.length by omega)]
  | k + 1 => rw [List.getElem?_eq_none (by omega)]; simp
theorem insF_5 {g : List Int} (h1 : g[1]? = some 5) (h2 : g.length = 3) (h3 : g.getD 2 0 < 256) : insF g = some (1, max 0 (g.getD 2 0)) := by
  rw [insF, if_pos ⟨h1, h2⟩, drop2 h2, b3_1 (by omega)]
theorem insF_2 {g : List Int} {n : Nat} (hl : g.length = n) (h1 : g[1]? = some 2) (h2 : n = 5 ∨ n = 6) (h3 : g.getD (n - 1) 0 < 256 ∧ g.getD (n - 2) 0 < 256 ∧ g.getD (n - 3) 0 < 256) :
    insF g = some (2, 65536 * max 0 (g.getD (n - 3) 0) + 256 * max 0 (g.getD (n - 2) 0) + max 0 (g.getD (n - 1) 0)) := by
  rw [insF, if_neg (by rw [h1]; simp), if_pos ⟨h1, by omega⟩, hl, drop3 hl (by omega), b3_3 (by omega) (by omega) (by omega)]
theorem insF_n {g : List Int} {n : Nat} {x : Int} (hl : g.length = n) (hx : g[1]? = some x) (h1 : ¬ (x = 5 ∧ n = 3 ∧ g.getD 2 0 < 256)) (h2 : ¬ (x = 2 ∧ (n = 5 ∨ n = 6) ∧ g.getD (n - 1) 0 < 256 ∧ g.getD (n - 2) 0 < 256 ∧ g.getD (n - 3) 0 < 256)) : insF g = none := by
  rw [insF, hx]
  split
  · rename_i h
    have h5 : x = 5 := by simpa using h.1
    rw [drop2 h.2, b3_1n (by omega)]
  · split
    · rename_i h
      have h5 : x = 2 := by simpa using h.1
      rw [hl, drop3 hl (by omega), b3_3n (by omega)]
    · rfl
theorem colG_ext {gs : List (List Int)} (hc : Cl gs) (i : Nat) (hi : i < gs.length) : (colG gs i).1 = if extB gs i = true then some (extC gs i) else none := by
  unfold colG extB extC
  split
  · cases hq : insF (gs.getD i []) with
    | none => simp
    | some q => simp
  · have f2 := firstV_range hc (i + 2)
    have f3 := firstV_range hc (i + 3)
    have f4 := firstV_range hc (i + 4)
    unfold behF needF
    split
    · rename_i h5
      by_cases hl : gs.length ≤ i + 1 + 1
      · rw [if_pos hl, if_neg (by simp; omega)]
      · rw [if_neg hl, if_neg (by decide)]
        dsimp only
        rw [show nextL gs i 1 = [firstV gs (i + 2)] from rfl]
        by_cases hv : firstV gs (i + 2) ≤ 255
        · rw [b3_1 hv, if_pos (by simp; omega), show max 0 (firstV gs (i + 2)) = firstV gs (i + 2) by omega]
        · rw [b3_1n hv, if_neg (by simp; omega)]
    · split
      · by_cases hl : gs.length ≤ i + 1 + 3
        · rw [if_pos hl, if_neg (by simp; omega)]
        · rw [if_neg hl, if_neg (by decide)]
          dsimp only
          rw [show nextL gs i 3 = [firstV gs (i + 2), firstV gs (i + 3), firstV gs (i + 4)] from rfl]
          by_cases hv : firstV gs (i + 2) ≤ 255 ∧ firstV gs (i + 3) ≤ 255 ∧ firstV gs (i + 4) ≤ 255
          · rw [b3_3 hv.1 hv.2.1 hv.2.2, if_pos (by simp; omega), show max 0 (firstV gs (i + 2)) = firstV gs (i + 2) by omega, show max 0 (firstV gs (i + 3)) = firstV gs (i + 3) by omega, show max 0 (firstV gs (i + 4)) = firstV gs (i + 4) by omega]
          · rw [b3_3n hv, if_neg (by simp; omega)]
      · split <;> simp
theorem extN_eq {gs : List (List Int)} {i : Nat} (hi : i < gs.length) : extN gs i = i + (colG gs i).2 + 1 ∨ (gs.length ≤ extN gs i ∧ i + (colG gs i).2 + 1 = gs.length) := by
  unfold extN colG
  split
  · exact .inl rfl
  · unfold behF needF
    split
    · split
      · right; dsimp only; omega
      · left; simp only [Nat.one_ne_zero, if_false]
    · split
      · split
        · right; dsimp only; omega
        · left; rw [if_neg (by decide)]
      · split
        · right; dsimp only; omega
        · left; rfl
theorem extended_c (w : World) (F : Nat → Prop) (A : Option Addr) (n c : Nat) (gs : List (List Int)) (hr : RdG w F A n c gs) (hc : Cl gs) (i : Nat) (hi : i < n) :
    Calls Tryd.prog 28 [.slice A n c, .int .i64 (i : Int)].toArray w (fun e w' => e = .returned (.tuple [colV (extC gs i).1 (extC gs i).2, Value.bool (extB gs i), Value.int .i64 (extN gs i : Int)].toArray) ∧ Ext [] w w') := by
  have hl := hr.len
  have h32 := hc.1
  obtain ⟨g, hg⟩ : ∃ g, gs[i]? = some g := ⟨gs[i]'(by omega), List.getElem?_eq_getElem _⟩
  have hgd : gs.getD i [] = g := by rw [List.getD_eq_getElem?_getD, hg]; rfl
  obtain ⟨ad, X, p, q, hA, _, hcell, hrd⟩ := hr.at_ hg
  have hp := hrd.len
  have hg8 := (hc.2 g (List.mem_of_getElem? hg)).2.1
  have hgb := (hc.2 g (List.mem_of_getElem? hg)).2.2
  have hat : ∀ k, k < p → g[k]? = some (g.getD k 0) := fun k hk => by rw [List.getD_eq_getElem?_getD, List.getElem?_eq_getElem (by omega)]; rfl
  have hab : ∀ k, k < p → -1 ≤ g.getD k 0 ∧ g.getD k 0 ≤ 65535 := fun k hk => hgb _ (List.mem_of_getElem? (hat k hk))
  refine calls (n := 186) Tryd.func28 rfl Tryd.ntmps28 rfl ?_
  refine CW.sub (H' := SH w [] []) ?_ (Sub.refl _) (fun x hx => SH.start' _ _ hx)
  refine CW.seq (CW.region ?_)
  refine RW.allocA ag23 rfl (fun g4 hg4 hf4 => ?_)
  refine RW.assign rfl rfl ?_
  refine RW.assign rfl rfl ?_
  refine RW.nil (EX.seq (CW.seq (CW.region ?_)))
  refine RW.move rfl rfl ?_
  refine RW.move rfl rfl ?_
  refine RW.ixAddr (q := i) sl28 rfl rfl rfl (by first | rfl | assumption) (by omega) (by omega) ?_
  refine RW.load1 sc40 rfl rfl (fun w' hw' => hw'.base_cell hcell (by simp [feet])) ?_
  refine RW.assign rfl rfl ?_
  refine RW.nil (EX.seq (CW.seq (CW.seq (CW.region ?_))))
  refine RW.move rfl rfl ?_
  refine RW.lenSl Tryd.underlying40 rfl rfl ?_
  refine RW.gtr rfl rfl rfl ?_
  refine RW.nil (EX.seq ?_)
  -- mq: cond
  first | refine CW.condD rfl (fun h1 => ?_) (fun h1 => ?_) | refine CW.cond rfl (fun h1 => ?_) (fun h1 => ?_)
  · skip
    have hx := hat 1 (by omega)
    obtain ⟨yd, hB, _, hycell⟩ := hrd.at_ hx
    refine CW.seq (CW.seq ?_)
    -- mq: region
    refine CW.join ([(0, .slice A n c), (1, .int .i64 (i : Int)), (4, .pointer (some ⟨g4, 0, none⟩)), (7, .slice X p q), (38, .bool (decide (g.getD 1 0 = 5 ∧ p = 3 ∧ g.getD 2 0 < 256)))]) (SH w [] [blk g4 [.int .i64 0, .int .i64 0] 23]) ?_ ?_
    · skip
      refine CW.region ?_
      refine RW.move rfl rfl ?_
      refine RW.ixAddr (q := 1) sl40 rfl rfl rfl hB (by omega) (by omega) ?_
      refine RW.load1 sc3 rfl rfl (fun w' hw' => hw'.base_cell (hycell 0 _ rfl) (by simp [feet])) ?_
      refine RW.eqlI rfl rfl rfl ?_
      refine RW.move rfl rfl ?_
      -- mq: guard slot 28
      refine RW.casesB 28 rfl (fun h2 => ?_) (fun h2 => ?_)
      · skip
        have h2p := of_decide_eq_true h2
        refine RW.guardT rfl rfl h2 ?_
        refine RW.move rfl rfl ?_
        refine RW.guardT rfl rfl h2 ?_
        refine RW.lenSl Tryd.underlying40 rfl rfl ?_
        refine RW.guardT rfl rfl h2 ?_
        refine RW.eqlI rfl rfl rfl ?_
        refine RW.pickB rfl rfl h2 rfl ?_
        refine RW.move rfl rfl ?_
        -- mq: guard slot 33
        refine RW.casesB 33 rfl (fun h3 => ?_) (fun h3 => ?_)
        · skip
          have h3p := of_decide_eq_true h3
          obtain ⟨yd2, hB2, _, hycell2⟩ := hrd.at_ (hat 2 (by omega))
          refine RW.guardT rfl rfl h3 ?_
          refine RW.move rfl rfl ?_
          refine RW.guardT rfl rfl h3 ?_
          refine RW.ixAddr (q := 2) sl40 rfl rfl rfl hB2 (by omega) (by omega) ?_
          refine RW.guardT rfl rfl h3 ?_
          refine RW.load1 sc3 rfl rfl (fun w' hw' => hw'.base_cell (hycell2 0 _ rfl) (by simp [feet])) ?_
          refine RW.guardT rfl rfl h3 ?_
          refine RW.lss rfl rfl rfl ?_
          refine RW.pickB rfl rfl h3 rfl ?_
          refine RW.nil ?_
          -- mq: joinend
          exact EX.jn (Sub.cons rfl (Sub.cons rfl (Sub.cons rfl (Sub.cons rfl (Sub.cons (congrArg (fun x => some (Value.bool x)) (by rw [decide_eq_decide]; omega)) Sub.nil))))) (fun _ h => h)
        · skip
          have h3p := of_decide_eq_false h3
          refine RW.guardF rfl rfl rfl h3 ?_
          refine RW.guardF rfl rfl rfl h3 ?_
          refine RW.guardF rfl rfl rfl h3 ?_
          refine RW.guardF rfl rfl rfl h3 ?_
          refine RW.pickC rfl rfl h3 rfl ?_
          refine RW.nil ?_
          -- mq: joinend
          exact EX.jn (Sub.cons rfl (Sub.cons rfl (Sub.cons rfl (Sub.cons rfl (Sub.cons (congrArg (fun x => some (Value.bool x)) (by rw [eq_comm, decide_eq_false_iff_not]; omega)) Sub.nil))))) (fun _ h => h)
      · skip
        have h2p := of_decide_eq_false h2
        refine RW.guardF rfl rfl rfl h2 ?_
        refine RW.guardF rfl rfl rfl h2 ?_
        refine RW.guardF rfl rfl rfl h2 ?_
        refine RW.pickC rfl rfl h2 rfl ?_
        refine RW.move rfl rfl ?_
        refine RW.guardF rfl rfl rfl rfl ?_
        refine RW.guardF rfl rfl rfl rfl ?_
        refine RW.guardF rfl rfl rfl rfl ?_
        refine RW.guardF rfl rfl rfl rfl ?_
        refine RW.pickC rfl rfl rfl rfl ?_
        refine RW.nil ?_
        -- mq: joinend
        exact EX.jn (Sub.cons rfl (Sub.cons rfl (Sub.cons rfl (Sub.cons rfl (Sub.cons (congrArg (fun x => some (Value.bool x)) (by rw [eq_comm, decide_eq_false_iff_not]; omega)) Sub.nil))))) (fun _ h => h)
    · skip
      refine EX.seq ?_
      -- mq: cond
      first | refine CW.condD rfl (fun h4 => ?_) (fun h4 => ?_) | refine CW.cond rfl (fun h4 => ?_) (fun h4 => ?_)
      · skip
        obtain ⟨yd2, hB2, _, hycell2⟩ := hrd.at_ (hat 2 (by omega))
        refine CW.seq (CW.region ?_)
        refine RW.move rfl rfl ?_
        refine RW.ixAddr (q := 2) sl40 rfl rfl rfl hB2 (by omega) (by omega) ?_
        refine RW.load1 sc3 rfl rfl (fun w' hw' => hw'.base_cell (hycell2 0 _ rfl) (by simp [feet])) ?_
        refine RW.call rfl ca38 rfl (fun w' _ => most0_c w' (g.getD 2 0)) ?_
        refine RW.buildS bu23 rfl rfl rfl ?_
        refine RW.move rfl rfl ?_
        refine RW.add rfl rfl rfl (wrap64 (by omega) (by omega)) ?_
        refine RW.storeA ag23 rfl rfl (by first | exact Upd.head | exact Upd.tail Upd.head | exact Upd.tail (Upd.tail Upd.head) | exact Upd.tail (Upd.tail (Upd.tail Upd.head)) | exact Upd.tail (Upd.tail (Upd.tail (Upd.tail Upd.head))) | exact Upd.tail (Upd.tail (Upd.tail (Upd.tail (Upd.tail Upd.head)))) | exact Upd.tail (Upd.tail (Upd.tail (Upd.tail (Upd.tail (Upd.tail Upd.head)))))) (by first | rfl | exact Enc.len _ _) (by repeat (first | exact Ones.nil | exact Enc.ones _ _ | refine Ones.cons rfl ?_)) (by first | exact Nat.le_of_ble_eq_true rfl | (simp only [Enc.len]; decide)) ?_
        refine RW.assign rfl rfl ?_
        refine RW.assign rfl rfl ?_
        refine RW.nil (EX.seq (CW.ret (EX.seqR (EX.seqR ?_))))
        refine EX.fin3' Tryd.results28 (RV.cellA ag23 rfl (by first | exact Has.head | exact Has.tail Has.head | exact Has.tail (Has.tail Has.head) | exact Has.tail (Has.tail (Has.tail Has.head)) | exact Has.tail (Has.tail (Has.tail (Has.tail Has.head))) | exact Has.tail (Has.tail (Has.tail (Has.tail (Has.tail Has.head)))) | exact Has.tail (Has.tail (Has.tail (Has.tail (Has.tail (Has.tail Has.head)))))) rfl rfl) (RV.tmp rfl) (RV.tmp rfl) (fun wz hw => ?_)
        -- mq: done
        refine ⟨?_, hw.ext⟩
        rw [extC, extB, extN, hgd, if_pos (by omega), if_pos (by omega), if_pos (by omega), insF_5 (hx.trans (by rw [h4.1])) (by omega) h4.2.2]
        rfl
      · skip
        refine CW.skip (EX.seq (CW.seq (CW.region ?_)))
        refine RW.move rfl rfl ?_
        refine RW.lenSl Tryd.underlying40 rfl rfl ?_
        refine RW.assign rfl rfl ?_
        refine RW.nil (EX.seq (CW.seq (CW.seq ?_)))
        -- mq: region
        refine CW.join ([(0, .slice A n c), (1, .int .i64 (i : Int)), (4, .pointer (some ⟨g4, 0, none⟩)), (7, .slice X p q), (8, .int .i64 (p : Int)), (83, .bool (decide (g.getD 1 0 = 2 ∧ (p = 5 ∨ p = 6) ∧ g.getD (p - 1) 0 < 256 ∧ g.getD (p - 2) 0 < 256 ∧ g.getD (p - 3) 0 < 256)))]) (SH w [] [blk g4 [.int .i64 0, .int .i64 0] 23]) ?_ ?_
        · skip
          refine CW.region ?_
          refine RW.move rfl rfl ?_
          refine RW.ixAddr (q := 1) sl40 rfl rfl rfl hB (by omega) (by omega) ?_
          refine RW.load1 sc3 rfl rfl (fun w' hw' => hw'.base_cell (hycell 0 _ rfl) (by simp [feet])) ?_
          refine RW.eqlI rfl rfl rfl ?_
          refine RW.move rfl rfl ?_
          -- mq: guard slot 52
          refine RW.casesB 52 rfl (fun h2 => ?_) (fun h2 => ?_)
          · skip
            have h2p := of_decide_eq_true h2
            refine RW.guardT rfl rfl h2 ?_
            refine RW.move rfl rfl ?_
            refine RW.guardT rfl rfl h2 ?_
            refine RW.eqlI rfl rfl rfl ?_
            refine RW.guardT rfl rfl h2 ?_
            refine RW.move rfl rfl ?_
            -- mq: guard slot 55
            refine RW.casesB 55 rfl (fun h3 => ?_) (fun h3 => ?_)
            · skip
              have h3p := of_decide_eq_true h3
              obtain ⟨a1, b1, _, c1⟩ := hrd.at_ (hat (p - 1) (by omega))
              obtain ⟨a2, b2, _, c2⟩ := hrd.at_ (hat (p - 2) (by omega))
              obtain ⟨a3, b3, _, c3⟩ := hrd.at_ (hat (p - 3) (by omega))
              refine RW.guardF rfl rfl rfl h3 ?_
              refine RW.guardF rfl rfl rfl h3 ?_
              refine RW.guardT rfl rfl h2 ?_
              refine RW.pickB rfl rfl h3 rfl ?_
              refine RW.pickB rfl rfl h2 rfl ?_
              refine RW.move rfl rfl ?_
              refine RW.guardT rfl rfl rfl ?_
              refine RW.move rfl rfl ?_
              refine RW.guardT rfl rfl rfl ?_
              refine RW.move rfl rfl ?_
              refine RW.guardT rfl rfl rfl ?_
              refine RW.sub_ rfl rfl rfl (wrap64 (by omega) (by omega)) ?_
              refine RW.guardT rfl rfl rfl ?_
              refine RW.ixAddr (q := p - 1) sl40 rfl rfl rfl b1 (by omega) (by omega) ?_
              refine RW.guardT rfl rfl rfl ?_
              refine RW.load1 sc3 rfl rfl (fun w' hw' => hw'.base_cell (c1 0 _ rfl) (by simp [feet])) ?_
              refine RW.guardT rfl rfl rfl ?_
              refine RW.lss rfl rfl rfl ?_
              refine RW.pickB rfl rfl rfl rfl ?_
              refine RW.move rfl rfl ?_
              -- mq: guard slot 68
              refine RW.casesB 68 rfl (fun h11 => ?_) (fun h11 => ?_)
              · skip
                have h11p := of_decide_eq_true h11
                refine RW.guardT rfl rfl h11 ?_
                refine RW.move rfl rfl ?_
                refine RW.guardT rfl rfl h11 ?_
                refine RW.move rfl rfl ?_
                refine RW.guardT rfl rfl h11 ?_
                refine RW.sub_ rfl rfl rfl (wrap64 (by omega) (by omega)) ?_
                refine RW.guardT rfl rfl h11 ?_
                refine RW.ixAddr (q := p - 2) sl40 rfl rfl rfl b2 (by omega) (by omega) ?_
                refine RW.guardT rfl rfl h11 ?_
                refine RW.load1 sc3 rfl rfl (fun w' hw' => hw'.base_cell (c2 0 _ rfl) (by simp [feet])) ?_
                refine RW.guardT rfl rfl h11 ?_
                refine RW.lss rfl rfl rfl ?_
                refine RW.pickB rfl rfl h11 rfl ?_
                refine RW.move rfl rfl ?_
                -- mq: guard slot 76
                refine RW.casesB 76 rfl (fun h12 => ?_) (fun h12 => ?_)
                · skip
                  have h12p := of_decide_eq_true h12
                  refine RW.guardT rfl rfl h12 ?_
                  refine RW.move rfl rfl ?_
                  refine RW.guardT rfl rfl h12 ?_
                  refine RW.move rfl rfl ?_
                  refine RW.guardT rfl rfl h12 ?_
                  refine RW.sub_ rfl rfl rfl (wrap64 (by omega) (by omega)) ?_
                  refine RW.guardT rfl rfl h12 ?_
                  refine RW.ixAddr (q := p - 3) sl40 rfl rfl rfl b3 (by omega) (by omega) ?_
                  refine RW.guardT rfl rfl h12 ?_
                  refine RW.load1 sc3 rfl rfl (fun w' hw' => hw'.base_cell (c3 0 _ rfl) (by simp [feet])) ?_
                  refine RW.guardT rfl rfl h12 ?_
                  refine RW.lss rfl rfl rfl ?_
                  refine RW.pickB rfl rfl h12 rfl ?_
                  refine RW.nil ?_
                  -- mq: joinend
                  exact EX.jn (Sub.cons rfl (Sub.cons rfl (Sub.cons rfl (Sub.cons rfl (Sub.cons rfl (Sub.cons (congrArg (fun x => some (Value.bool x)) (by first | (rw [decide_eq_decide]; omega) | (rw [eq_comm, decide_eq_false_iff_not]; omega) | (rw [eq_comm, decide_eq_true_iff]; omega))) Sub.nil)))))) (fun _ h => h)
                · skip
                  have h12p := of_decide_eq_false h12
                  refine RW.guardF rfl rfl rfl h12 ?_
                  refine RW.guardF rfl rfl rfl h12 ?_
                  refine RW.guardF rfl rfl rfl h12 ?_
                  refine RW.guardF rfl rfl rfl h12 ?_
                  refine RW.guardF rfl rfl rfl h12 ?_
                  refine RW.guardF rfl rfl rfl h12 ?_
                  refine RW.pickC rfl rfl h12 rfl ?_
                  refine RW.nil ?_
                  -- mq: joinend
                  exact EX.jn (Sub.cons rfl (Sub.cons rfl (Sub.cons rfl (Sub.cons rfl (Sub.cons rfl (Sub.cons (congrArg (fun x => some (Value.bool x)) (by first | (rw [decide_eq_decide]; omega) | (rw [eq_comm, decide_eq_false_iff_not]; omega) | (rw [eq_comm, decide_eq_true_iff]; omega))) Sub.nil)))))) (fun _ h => h)
              · skip
                have h11p := of_decide_eq_false h11
                refine RW.guardF rfl rfl rfl h11 ?_
                refine RW.guardF rfl rfl rfl h11 ?_
                refine RW.guardF rfl rfl rfl h11 ?_
                refine RW.guardF rfl rfl rfl h11 ?_
                refine RW.guardF rfl rfl rfl h11 ?_
                refine RW.guardF rfl rfl rfl h11 ?_
                refine RW.pickC rfl rfl h11 rfl ?_
                refine RW.move rfl rfl ?_
                refine RW.guardF rfl rfl rfl rfl ?_
                refine RW.guardF rfl rfl rfl rfl ?_
                refine RW.guardF rfl rfl rfl rfl ?_
                refine RW.guardF rfl rfl rfl rfl ?_
                refine RW.guardF rfl rfl rfl rfl ?_
                refine RW.guardF rfl rfl rfl rfl ?_
                refine RW.pickC rfl rfl rfl rfl ?_
                refine RW.nil ?_
                -- mq: joinend
                exact EX.jn (Sub.cons rfl (Sub.cons rfl (Sub.cons rfl (Sub.cons rfl (Sub.cons rfl (Sub.cons (congrArg (fun x => some (Value.bool x)) (by first | (rw [decide_eq_decide]; omega) | (rw [eq_comm, decide_eq_false_iff_not]; omega) | (rw [eq_comm, decide_eq_true_iff]; omega))) Sub.nil)))))) (fun _ h => h)
            · skip
              have h3p := of_decide_eq_false h3
              refine RW.guardT rfl rfl h3 ?_
              refine RW.move rfl rfl ?_
              refine RW.guardT rfl rfl h3 ?_
              refine RW.eqlI rfl rfl rfl ?_
              refine RW.guardT rfl rfl h2 ?_
              refine RW.pickC rfl rfl h3 rfl ?_
              refine RW.pickB rfl rfl h2 rfl ?_
              refine RW.move rfl rfl ?_
              -- mq: guard slot 60
              refine RW.casesB 60 rfl (fun h10 => ?_) (fun h10 => ?_)
              · skip
                have h10p := of_decide_eq_true h10
                obtain ⟨a1, b1, _, c1⟩ := hrd.at_ (hat (p - 1) (by omega))
                obtain ⟨a2, b2, _, c2⟩ := hrd.at_ (hat (p - 2) (by omega))
                obtain ⟨a3, b3, _, c3⟩ := hrd.at_ (hat (p - 3) (by omega))
                refine RW.guardT rfl rfl h10 ?_
                refine RW.move rfl rfl ?_
                refine RW.guardT rfl rfl h10 ?_
                refine RW.move rfl rfl ?_
                refine RW.guardT rfl rfl h10 ?_
                refine RW.sub_ rfl rfl rfl (wrap64 (by omega) (by omega)) ?_
                refine RW.guardT rfl rfl h10 ?_
                refine RW.ixAddr (q := p - 1) sl40 rfl rfl rfl b1 (by omega) (by omega) ?_
                refine RW.guardT rfl rfl h10 ?_
                refine RW.load1 sc3 rfl rfl (fun w' hw' => hw'.base_cell (c1 0 _ rfl) (by simp [feet])) ?_
                refine RW.guardT rfl rfl h10 ?_
                refine RW.lss rfl rfl rfl ?_
                refine RW.pickB rfl rfl h10 rfl ?_
                refine RW.move rfl rfl ?_
                -- mq: guard slot 68
                refine RW.casesB 68 rfl (fun h11 => ?_) (fun h11 => ?_)
                · skip
                  have h11p := of_decide_eq_true h11
                  refine RW.guardT rfl rfl h11 ?_
                  refine RW.move rfl rfl ?_
                  refine RW.guardT rfl rfl h11 ?_
                  refine RW.move rfl rfl ?_
                  refine RW.guardT rfl rfl h11 ?_
                  refine RW.sub_ rfl rfl rfl (wrap64 (by omega) (by omega)) ?_
                  refine RW.guardT rfl rfl h11 ?_
                  refine RW.ixAddr (q := p - 2) sl40 rfl rfl rfl b2 (by omega) (by omega) ?_
                  refine RW.guardT rfl rfl h11 ?_
                  refine RW.load1 sc3 rfl rfl (fun w' hw' => hw'.base_cell (c2 0 _ rfl) (by simp [feet])) ?_
                  refine RW.guardT rfl rfl h11 ?_
                  refine RW.lss rfl rfl rfl ?_
                  refine RW.pickB rfl rfl h11 rfl ?_
                  refine RW.move rfl rfl ?_
                  -- mq: guard slot 76
                  refine RW.casesB 76 rfl (fun h12 => ?_) (fun h12 => ?_)
                  · skip
                    have h12p := of_decide_eq_true h12
                    refine RW.guardT rfl rfl h12 ?_
                    refine RW.move rfl rfl ?_
                    refine RW.guardT rfl rfl h12 ?_
                    refine RW.move rfl rfl ?_
                    refine RW.guardT rfl rfl h12 ?_
                    refine RW.sub_ rfl rfl rfl (wrap64 (by omega) (by omega)) ?_
                    refine RW.guardT rfl rfl h12 ?_
                    refine RW.ixAddr (q := p - 3) sl40 rfl rfl rfl b3 (by omega) (by omega) ?_
                    refine RW.guardT rfl rfl h12 ?_
                    refine RW.load1 sc3 rfl rfl (fun w' hw' => hw'.base_cell (c3 0 _ rfl) (by simp [feet])) ?_
                    refine RW.guardT rfl rfl h12 ?_
                    refine RW.lss rfl rfl rfl ?_
                    refine RW.pickB rfl rfl h12 rfl ?_
                    refine RW.nil ?_
                    -- mq: joinend
                    exact EX.jn (Sub.cons rfl (Sub.cons rfl (Sub.cons rfl (Sub.cons rfl (Sub.cons rfl (Sub.cons (congrArg (fun x => some (Value.bool x)) (by first | (rw [decide_eq_decide]; omega) | (rw [eq_comm, decide_eq_false_iff_not]; omega) | (rw [eq_comm, decide_eq_true_iff]; omega))) Sub.nil)))))) (fun _ h => h)
                  · skip
                    have h12p := of_decide_eq_false h12
                    refine RW.guardF rfl rfl rfl h12 ?_
                    refine RW.guardF rfl rfl rfl h12 ?_
                    refine RW.guardF rfl rfl rfl h12 ?_
                    refine RW.guardF rfl rfl rfl h12 ?_
                    refine RW.guardF rfl rfl rfl h12 ?_
                    refine RW.guardF rfl rfl rfl h12 ?_
                    refine RW.pickC rfl rfl h12 rfl ?_
                    refine RW.nil ?_
                    -- mq: joinend
                    exact EX.jn (Sub.cons rfl (Sub.cons rfl (Sub.cons rfl (Sub.cons rfl (Sub.cons rfl (Sub.cons (congrArg (fun x => some (Value.bool x)) (by first | (rw [decide_eq_decide]; omega) | (rw [eq_comm, decide_eq_false_iff_not]; omega) | (rw [eq_comm, decide_eq_true_iff]; omega))) Sub.nil)))))) (fun _ h => h)
                · skip
                  have h11p := of_decide_eq_false h11
                  refine RW.guardF rfl rfl rfl h11 ?_
                  refine RW.guardF rfl rfl rfl h11 ?_
                  refine RW.guardF rfl rfl rfl h11 ?_
                  refine RW.guardF rfl rfl rfl h11 ?_
                  refine RW.guardF rfl rfl rfl h11 ?_
                  refine RW.guardF rfl rfl rfl h11 ?_
                  refine RW.pickC rfl rfl h11 rfl ?_
                  refine RW.move rfl rfl ?_
                  refine RW.guardF rfl rfl rfl rfl ?_
                  refine RW.guardF rfl rfl rfl rfl ?_
                  refine RW.guardF rfl rfl rfl rfl ?_
                  refine RW.guardF rfl rfl rfl rfl ?_
                  refine RW.guardF rfl rfl rfl rfl ?_
                  refine RW.guardF rfl rfl rfl rfl ?_
                  refine RW.pickC rfl rfl rfl rfl ?_
                  refine RW.nil ?_
                  -- mq: joinend
                  exact EX.jn (Sub.cons rfl (Sub.cons rfl (Sub.cons rfl (Sub.cons rfl (Sub.cons rfl (Sub.cons (congrArg (fun x => some (Value.bool x)) (by first | (rw [decide_eq_decide]; omega) | (rw [eq_comm, decide_eq_false_iff_not]; omega) | (rw [eq_comm, decide_eq_true_iff]; omega))) Sub.nil)))))) (fun _ h => h)
              · skip
                have h10p := of_decide_eq_false h10
                refine RW.guardF rfl rfl rfl h10 ?_
                refine RW.guardF rfl rfl rfl h10 ?_
                refine RW.guardF rfl rfl rfl h10 ?_
                refine RW.guardF rfl rfl rfl h10 ?_
                refine RW.guardF rfl rfl rfl h10 ?_
                refine RW.guardF rfl rfl rfl h10 ?_
                refine RW.pickC rfl rfl h10 rfl ?_
                refine RW.move rfl rfl ?_
                refine RW.guardF rfl rfl rfl rfl ?_
                refine RW.guardF rfl rfl rfl rfl ?_
                refine RW.guardF rfl rfl rfl rfl ?_
                refine RW.guardF rfl rfl rfl rfl ?_
                refine RW.guardF rfl rfl rfl rfl ?_
                refine RW.guardF rfl rfl rfl rfl ?_
                refine RW.pickC rfl rfl rfl rfl ?_
                refine RW.move rfl rfl ?_
                refine RW.guardF rfl rfl rfl rfl ?_
                refine RW.guardF rfl rfl rfl rfl ?_
                refine RW.guardF rfl rfl rfl rfl ?_
                refine RW.guardF rfl rfl rfl rfl ?_
                refine RW.guardF rfl rfl rfl rfl ?_
                refine RW.guardF rfl rfl rfl rfl ?_
                refine RW.pickC rfl rfl rfl rfl ?_
                refine RW.nil ?_
                -- mq: joinend
                exact EX.jn (Sub.cons rfl (Sub.cons rfl (Sub.cons rfl (Sub.cons rfl (Sub.cons rfl (Sub.cons (congrArg (fun x => some (Value.bool x)) (by first | (rw [decide_eq_decide]; omega) | (rw [eq_comm, decide_eq_false_iff_not]; omega) | (rw [eq_comm, decide_eq_true_iff]; omega))) Sub.nil)))))) (fun _ h => h)
          · skip
            have h2p := of_decide_eq_false h2
            refine RW.guardF rfl rfl rfl h2 ?_
            refine RW.guardF rfl rfl rfl h2 ?_
            refine RW.guardF rfl rfl rfl h2 ?_
            refine RW.guardU rfl rfl rfl ?_
            refine RW.guardU rfl rfl rfl ?_
            refine RW.guardF rfl rfl rfl h2 ?_
            refine RW.pickC rfl rfl h2 rfl ?_
            refine RW.move rfl rfl ?_
            refine RW.guardF rfl rfl rfl rfl ?_
            refine RW.guardF rfl rfl rfl rfl ?_
            refine RW.guardF rfl rfl rfl rfl ?_
            refine RW.guardF rfl rfl rfl rfl ?_
            refine RW.guardF rfl rfl rfl rfl ?_
            refine RW.guardF rfl rfl rfl rfl ?_
            refine RW.pickC rfl rfl rfl rfl ?_
            refine RW.move rfl rfl ?_
            refine RW.guardF rfl rfl rfl rfl ?_
            refine RW.guardF rfl rfl rfl rfl ?_
            refine RW.guardF rfl rfl rfl rfl ?_
            refine RW.guardF rfl rfl rfl rfl ?_
            refine RW.guardF rfl rfl rfl rfl ?_
            refine RW.guardF rfl rfl rfl rfl ?_
            refine RW.pickC rfl rfl rfl rfl ?_
            refine RW.move rfl rfl ?_
            refine RW.guardF rfl rfl rfl rfl ?_
            refine RW.guardF rfl rfl rfl rfl ?_
            refine RW.guardF rfl rfl rfl rfl ?_
            refine RW.guardF rfl rfl rfl rfl ?_
            refine RW.guardF rfl rfl rfl rfl ?_
            refine RW.guardF rfl rfl rfl rfl ?_
            refine RW.pickC rfl rfl rfl rfl ?_
            refine RW.nil ?_
            -- mq: joinend
            exact EX.jn (Sub.cons rfl (Sub.cons rfl (Sub.cons rfl (Sub.cons rfl (Sub.cons rfl (Sub.cons (congrArg (fun x => some (Value.bool x)) (by first | (rw [decide_eq_decide]; omega) | (rw [eq_comm, decide_eq_false_iff_not]; omega) | (rw [eq_comm, decide_eq_true_iff]; omega))) Sub.nil)))))) (fun _ h => h)
        · skip
          refine EX.seq ?_
          -- mq: cond
          first | refine CW.condD rfl (fun h5 => ?_) (fun h5 => ?_) | refine CW.cond rfl (fun h5 => ?_) (fun h5 => ?_)
          · skip
            obtain ⟨a1, b1, _, c1⟩ := hrd.at_ (hat (p - 1) (by omega))
            obtain ⟨a2, b2, _, c2⟩ := hrd.at_ (hat (p - 2) (by omega))
            obtain ⟨a3, b3, _, c3⟩ := hrd.at_ (hat (p - 3) (by omega))
            have r1 := hab (p - 1) (by omega)
            have r2 := hab (p - 2) (by omega)
            have r3 := hab (p - 3) (by omega)
            refine CW.seq ?_
            -- mq: region
            refine CW.drawU [0, 1, 2, 3, 4, 7, 8, 9, 10, 11, 15, 16, 17, 18, 19, 23, 24] 4 [[(5, false, [6]), (12, false, [13, 14]), (20, false, [21, 22]), (25, false, [26, 27])]] (SH w [] []) mixed (by kernel_rfl) (fun _ hw => hw.drew) (fun _ h => (h.rem Rem.head)) ?_
            refine QuP.cons rfl (fun wq hq => (RW.move rfl rfl RW.jn)) ?_
            refine QuP.cons rfl (fun wq hq => (RW.move rfl rfl RW.jn)) ?_
            refine QuP.cons rfl (fun wq hq => (RW.sub_ rfl rfl rfl (wrap64 (by omega) (by omega)) RW.jn)) ?_
            refine QuP.cons rfl (fun wq hq => (RW.ixAddr (q := p - 3) sl40 rfl rfl rfl b3 (by omega) (by omega) RW.jn)) ?_
            refine QuP.cons rfl (fun wq hq => (RW.load1 sc3 rfl rfl (fun w1 e1 => by subst e1; exact (hq.base_cell (c3 0 _ rfl) (by simp [feet]))) RW.jn)) ?_
            refine QuP.cons rfl (fun wq hq => (RW.move rfl rfl RW.jn)) ?_
            refine QuP.cons rfl (fun wq hq => (RW.move rfl rfl RW.jn)) ?_
            refine QuP.cons rfl (fun wq hq => (RW.sub_ rfl rfl rfl (wrap64 (by omega) (by omega)) RW.jn)) ?_
            refine QuP.cons rfl (fun wq hq => (RW.ixAddr (q := p - 2) sl40 rfl rfl rfl b2 (by omega) (by omega) RW.jn)) ?_
            refine QuP.cons rfl (fun wq hq => (RW.load1 sc3 rfl rfl (fun w1 e1 => by subst e1; exact (hq.base_cell (c2 0 _ rfl) (by simp [feet]))) RW.jn)) ?_
            refine QuP.cons rfl (fun wq hq => (RW.move rfl rfl RW.jn)) ?_
            refine QuP.cons rfl (fun wq hq => (RW.move rfl rfl RW.jn)) ?_
            refine QuP.cons rfl (fun wq hq => (RW.sub_ rfl rfl rfl (wrap64 (by omega) (by omega)) RW.jn)) ?_
            refine QuP.cons rfl (fun wq hq => (RW.ixAddr (q := p - 1) sl40 rfl rfl rfl b1 (by omega) (by omega) RW.jn)) ?_
            refine QuP.cons rfl (fun wq hq => (RW.load1 sc3 rfl rfl (fun w1 e1 => by subst e1; exact (hq.base_cell (c1 0 _ rfl) (by simp [feet]))) RW.jn)) ?_
            refine QuP.cons rfl (fun wq hq => (RW.move rfl rfl RW.jn)) ?_
            refine QuP.cons rfl (fun wq hq => (RW.add rfl rfl rfl (wrap64 (by omega) (by omega)) RW.jn)) ?_
            refine QuP.nil ?_
            refine UW.step [_] rfl (List.forall_mem_cons.2 ⟨?_, by simp⟩)
            refine RW.call rfl ca38 rfl (fun w' _ => most0_c w' (g.getD (p - 3) 0)) ?_
            refine RW.st (fun _ => True) (fun _ h => .inr (h.rem Rem.head)) (fun _ h => trivial) ?_
            refine QuP.cons rfl (fun wq hq => (RW.mul rfl rfl rfl (wrap64 (by omega) (by omega)) RW.jn)) ?_
            refine QuP.nil ?_
            refine UW.step [_] rfl (List.forall_mem_cons.2 ⟨?_, by simp⟩)
            refine RW.call rfl ca38 rfl (fun w' _ => most0_c w' (g.getD (p - 2) 0)) ?_
            refine RW.st (fun _ => True) (fun _ h => .inr ⟨.inr (h.rem Rem.head), trivial⟩) (fun _ h => trivial) ?_
            refine QuP.cons rfl (fun wq hq => (RW.mul rfl rfl rfl (wrap64 (by omega) (by omega)) RW.jn)) ?_
            refine QuP.cons rfl (fun wq hq => (RW.add rfl rfl rfl (wrap64 (by omega) (by omega)) RW.jn)) ?_
            refine QuP.nil ?_
            refine UW.step [_] rfl (List.forall_mem_cons.2 ⟨?_, by simp⟩)
            refine RW.call rfl ca38 rfl (fun w' _ => most0_c w' (g.getD (p - 1) 0)) ?_
            refine RW.st (fun _ => True) (fun _ h => .inr ⟨.inr ⟨.inr (h.rem Rem.head), trivial⟩, trivial⟩) (fun _ h => trivial) ?_
            refine QuP.cons rfl (fun wq hq => (RW.add rfl rfl rfl (wrap64 (by omega) (by omega)) RW.jn)) ?_
            refine QuP.cons rfl (fun wq hq => (RW.buildS bu23 rfl rfl rfl RW.jn)) ?_
            refine QuP.nil ?_
            refine UW.step [_] rfl (List.forall_mem_cons.2 ⟨?_, by simp⟩)
            refine RW.storeA ag23 rfl rfl (by first | exact Upd.head | exact Upd.tail Upd.head | exact Upd.tail (Upd.tail Upd.head) | exact Upd.tail (Upd.tail (Upd.tail Upd.head)) | exact Upd.tail (Upd.tail (Upd.tail (Upd.tail Upd.head))) | exact Upd.tail (Upd.tail (Upd.tail (Upd.tail (Upd.tail Upd.head)))) | exact Upd.tail (Upd.tail (Upd.tail (Upd.tail (Upd.tail (Upd.tail Upd.head)))))) (by first | rfl | exact Enc.len _ _) (by repeat (first | exact Ones.nil | exact Enc.ones _ _ | refine Ones.cons rfl ?_)) (by first | exact Nat.le_of_ble_eq_true rfl | (simp only [Enc.len]; decide)) ?_
            refine RW.st (fun _ => True) (fun _ h => .inr ⟨.inr ⟨.inr ⟨.inr (h.rem Rem.head), trivial⟩, trivial⟩, trivial⟩) (fun _ h => trivial) ?_
            refine QuP.cons rfl (fun wq hq => (RW.assign rfl rfl RW.jn)) ?_
            refine QuP.cons rfl (fun wq hq => (RW.assign rfl rfl RW.jn)) ?_
            refine QuP.nil ?_
            refine UW.nil (EX.seq (CW.ret (EX.seqR (EX.seqR ?_))))
            refine EX.fin3' Tryd.results28 (RV.cellA ag23 rfl (by first | exact Has.head | exact Has.tail Has.head | exact Has.tail (Has.tail Has.head) | exact Has.tail (Has.tail (Has.tail Has.head)) | exact Has.tail (Has.tail (Has.tail (Has.tail Has.head))) | exact Has.tail (Has.tail (Has.tail (Has.tail (Has.tail Has.head)))) | exact Has.tail (Has.tail (Has.tail (Has.tail (Has.tail (Has.tail Has.head)))))) rfl rfl) (RV.tmp rfl) (RV.tmp rfl) (fun wz hw => ?_)
            -- mq: done
            refine ⟨?_, hw.ext⟩
            rw [extC, extB, extN, hgd, if_pos (by omega), if_pos (by omega), if_pos (by omega), insF_2 hp (hx.trans (by rw [h5.1])) h5.2.1 h5.2.2]
            rfl
          · skip
            refine CW.skip (EX.seq (CW.seq (CW.region ?_)))
            refine RW.buildS bu23 rfl rfl rfl ?_
            refine RW.move rfl rfl ?_
            refine RW.add rfl rfl rfl (wrap64 (by omega) (by omega)) ?_
            refine RW.storeA ag23 rfl rfl (by first | exact Upd.head | exact Upd.tail Upd.head | exact Upd.tail (Upd.tail Upd.head) | exact Upd.tail (Upd.tail (Upd.tail Upd.head)) | exact Upd.tail (Upd.tail (Upd.tail (Upd.tail Upd.head))) | exact Upd.tail (Upd.tail (Upd.tail (Upd.tail (Upd.tail Upd.head)))) | exact Upd.tail (Upd.tail (Upd.tail (Upd.tail (Upd.tail (Upd.tail Upd.head)))))) (by first | rfl | exact Enc.len _ _) (by repeat (first | exact Ones.nil | exact Enc.ones _ _ | refine Ones.cons rfl ?_)) (by first | exact Nat.le_of_ble_eq_true rfl | (simp only [Enc.len]; decide)) ?_
            refine RW.assign rfl rfl ?_
            refine RW.assign rfl rfl ?_
            refine RW.nil (EX.seq (CW.ret (EX.seqR ?_)))
            refine EX.fin3' Tryd.results28 (RV.cellA ag23 rfl (by first | exact Has.head | exact Has.tail Has.head | exact Has.tail (Has.tail Has.head) | exact Has.tail (Has.tail (Has.tail Has.head)) | exact Has.tail (Has.tail (Has.tail (Has.tail Has.head))) | exact Has.tail (Has.tail (Has.tail (Has.tail (Has.tail Has.head)))) | exact Has.tail (Has.tail (Has.tail (Has.tail (Has.tail (Has.tail Has.head)))))) rfl rfl) (RV.tmp rfl) (RV.tmp rfl) (fun wz hw => ?_)
            -- mq: done
            refine ⟨?_, hw.ext⟩
            rw [extC, extB, extN, hgd, if_pos (by omega), if_pos (by omega), if_pos (by omega), insF_n hp hx h4 h5]
            rfl
  · skip
    have hno : ¬ 1 < g.length := by omega
    have f1 := firstV_range hc (i + 1)
    have f2 := firstV_range hc (i + 2)
    have f3 := firstV_range hc (i + 3)
    have f4 := firstV_range hc (i + 4)
    refine CW.skip (EX.seq (CW.seq ?_))
    -- mq: region
    refine CW.region ?_
    refine RW.move rfl rfl ?_
    refine RW.move rfl rfl ?_
    refine RW.add rfl rfl rfl (wrap64 (by omega) (by omega)) ?_
    refine RW.call rfl ca27 rfl (fun w' hw' => at_c w' _ _ _ _ gs (hr.ext hw'.ext (by simp)) hc (i + 1) (by omega)) ?_
    refine RW.move rfl rfl ?_
    refine RW.extract rfl rfl rfl ?_
    refine RW.extract rfl rfl rfl ?_
    refine RW.assign rfl rfl ?_
    refine RW.assign rfl rfl ?_
    refine RW.nil (EX.seq (CW.seq ?_))
    -- mq: region
    refine CW.region ?_
    refine RW.move rfl rfl ?_
    refine RW.move rfl rfl ?_
    refine RW.add rfl rfl rfl (wrap64 (by omega) (by omega)) ?_
    refine RW.call rfl ca27 rfl (fun w' hw' => at_c w' _ _ _ _ gs (hr.ext hw'.ext (by simp)) hc (i + 2) (by omega)) ?_
    refine RW.move rfl rfl ?_
    refine RW.extract rfl rfl rfl ?_
    refine RW.extract rfl rfl rfl ?_
    refine RW.assign rfl rfl ?_
    refine RW.assign rfl rfl ?_
    refine RW.nil (EX.seq (CW.seq ?_))
    -- mq: region
    refine CW.region ?_
    refine RW.move rfl rfl ?_
    refine RW.move rfl rfl ?_
    refine RW.add rfl rfl rfl (wrap64 (by omega) (by omega)) ?_
    refine RW.call rfl ca27 rfl (fun w' hw' => at_c w' _ _ _ _ gs (hr.ext hw'.ext (by simp)) hc (i + 3) (by omega)) ?_
    refine RW.move rfl rfl ?_
    refine RW.extract rfl rfl rfl ?_
    refine RW.extract rfl rfl rfl ?_
    refine RW.assign rfl rfl ?_
    refine RW.assign rfl rfl ?_
    refine RW.nil (EX.seq (CW.seq ?_))
    -- mq: region
    refine CW.region ?_
    refine RW.move rfl rfl ?_
    refine RW.move rfl rfl ?_
    refine RW.add rfl rfl rfl (wrap64 (by omega) (by omega)) ?_
    refine RW.call rfl ca27 rfl (fun w' hw' => at_c w' _ _ _ _ gs (hr.ext hw'.ext (by simp)) hc (i + 4) (by omega)) ?_
    refine RW.move rfl rfl ?_
    refine RW.extract rfl rfl rfl ?_
    refine RW.extract rfl rfl rfl ?_
    refine RW.assign rfl rfl ?_
    refine RW.assign rfl rfl ?_
    refine RW.nil (EX.seq (CW.seq (CW.seq (CW.region ?_))))
    refine RW.move rfl rfl ?_
    refine RW.nil (EX.seq (CW.block (CW.seq (CW.region ?_))))
    refine RW.eqlI rfl rfl rfl ?_
    refine RW.assign rfl rfl ?_
    refine RW.nil (EX.seq ?_)
    -- mq: cond
    first | refine CW.condD rfl (fun h5 => ?_) (fun h5 => ?_) | refine CW.cond rfl (fun h5 => ?_) (fun h5 => ?_)
    · skip
      refine CW.seq (CW.region ?_)
      refine RW.move rfl rfl ?_
      refine RW.buildS bu23 rfl rfl rfl ?_
      refine RW.move rfl rfl ?_
      refine RW.move rfl rfl ?_
      -- mq: guard slot 146
      refine RW.casesB 146 rfl (fun h7 => ?_) (fun h7 => ?_)
      · skip
        have h7p := of_decide_eq_true h7
        refine RW.guardT rfl rfl h7 ?_
        refine RW.move rfl rfl ?_
        refine RW.guardT rfl rfl h7 ?_
        refine RW.lss rfl rfl rfl ?_
        refine RW.pickB rfl rfl h7 rfl ?_
        refine RW.move rfl rfl ?_
        refine RW.add rfl rfl rfl (wrap64 (by omega) (by omega)) ?_
        refine RW.storeA ag23 rfl rfl (by first | exact Upd.head | exact Upd.tail Upd.head | exact Upd.tail (Upd.tail Upd.head) | exact Upd.tail (Upd.tail (Upd.tail Upd.head)) | exact Upd.tail (Upd.tail (Upd.tail (Upd.tail Upd.head))) | exact Upd.tail (Upd.tail (Upd.tail (Upd.tail (Upd.tail Upd.head)))) | exact Upd.tail (Upd.tail (Upd.tail (Upd.tail (Upd.tail (Upd.tail Upd.head)))))) (by first | rfl | exact Enc.len _ _) (by repeat (first | exact Ones.nil | exact Enc.ones _ _ | refine Ones.cons rfl ?_)) (by first | exact Nat.le_of_ble_eq_true rfl | (simp only [Enc.len]; decide)) ?_
        refine RW.assign rfl rfl ?_
        refine RW.assign rfl rfl ?_
        refine RW.nil (EX.seq (CW.ret (EX.bkR (EX.seqR ?_))))
        refine EX.fin3' Tryd.results28 (RV.cellA ag23 rfl (by first | exact Has.head | exact Has.tail Has.head | exact Has.tail (Has.tail Has.head) | exact Has.tail (Has.tail (Has.tail Has.head)) | exact Has.tail (Has.tail (Has.tail (Has.tail Has.head))) | exact Has.tail (Has.tail (Has.tail (Has.tail (Has.tail Has.head)))) | exact Has.tail (Has.tail (Has.tail (Has.tail (Has.tail (Has.tail Has.head)))))) rfl rfl) (RV.tmp rfl) (RV.tmp rfl) (fun wz hw => ?_)
        -- mq: done
        refine ⟨?_, hw.ext⟩
        simp only [extC, extB, extN, hgd, if_neg hno, if_pos h5]
        refine congrArg (fun x => Ending.returned (.tuple #[_, Value.bool x, _])) ?_
        first | (rw [decide_eq_decide]; omega) | (rw [eq_comm, decide_eq_false_iff_not]; omega) | (rw [eq_comm, decide_eq_true_iff]; omega)
      · skip
        have h7p := of_decide_eq_false h7
        refine RW.guardF rfl rfl rfl h7 ?_
        refine RW.guardF rfl rfl rfl h7 ?_
        refine RW.pickC rfl rfl h7 rfl ?_
        refine RW.move rfl rfl ?_
        refine RW.add rfl rfl rfl (wrap64 (by omega) (by omega)) ?_
        refine RW.storeA ag23 rfl rfl (by first | exact Upd.head | exact Upd.tail Upd.head | exact Upd.tail (Upd.tail Upd.head) | exact Upd.tail (Upd.tail (Upd.tail Upd.head)) | exact Upd.tail (Upd.tail (Upd.tail (Upd.tail Upd.head))) | exact Upd.tail (Upd.tail (Upd.tail (Upd.tail (Upd.tail Upd.head)))) | exact Upd.tail (Upd.tail (Upd.tail (Upd.tail (Upd.tail (Upd.tail Upd.head)))))) (by first | rfl | exact Enc.len _ _) (by repeat (first | exact Ones.nil | exact Enc.ones _ _ | refine Ones.cons rfl ?_)) (by first | exact Nat.le_of_ble_eq_true rfl | (simp only [Enc.len]; decide)) ?_
        refine RW.assign rfl rfl ?_
        refine RW.assign rfl rfl ?_
        refine RW.nil (EX.seq (CW.ret (EX.bkR (EX.seqR ?_))))
        refine EX.fin3' Tryd.results28 (RV.cellA ag23 rfl (by first | exact Has.head | exact Has.tail Has.head | exact Has.tail (Has.tail Has.head) | exact Has.tail (Has.tail (Has.tail Has.head)) | exact Has.tail (Has.tail (Has.tail (Has.tail Has.head))) | exact Has.tail (Has.tail (Has.tail (Has.tail (Has.tail Has.head)))) | exact Has.tail (Has.tail (Has.tail (Has.tail (Has.tail (Has.tail Has.head)))))) rfl rfl) (RV.tmp rfl) (RV.tmp rfl) (fun wz hw => ?_)
        -- mq: done
        refine ⟨?_, hw.ext⟩
        simp only [extC, extB, extN, hgd, if_neg hno, if_pos h5]
        refine congrArg (fun x => Ending.returned (.tuple #[_, Value.bool x, _])) ?_
        first | (rw [decide_eq_decide]; omega) | (rw [eq_comm, decide_eq_false_iff_not]; omega) | (rw [eq_comm, decide_eq_true_iff]; omega)
    · skip
      refine CW.seq (CW.region ?_)
      refine RW.eqlI rfl rfl rfl ?_
      refine RW.assign rfl rfl ?_
      refine RW.nil (EX.seq ?_)
      -- mq: cond
      first | refine CW.condD rfl (fun h6 => ?_) (fun h6 => ?_) | refine CW.cond rfl (fun h6 => ?_) (fun h6 => ?_)
      · skip
        refine CW.seq (CW.region ?_)
        refine RW.move rfl rfl ?_
        refine RW.mul rfl rfl rfl (wrap64 (by omega) (by omega)) ?_
        refine RW.move rfl rfl ?_
        refine RW.mul rfl rfl rfl (wrap64 (by omega) (by omega)) ?_
        refine RW.add rfl rfl rfl (wrap64 (by omega) (by omega)) ?_
        refine RW.move rfl rfl ?_
        refine RW.add rfl rfl rfl (wrap64 (by omega) (by omega)) ?_
        refine RW.buildS bu23 rfl rfl rfl ?_
        refine RW.move rfl rfl ?_
        refine RW.move rfl rfl ?_
        -- mq: guard slot 163
        refine RW.casesB 163 rfl (fun k0 => ?_) (fun k0 => ?_)
        · skip
          have k0p := of_decide_eq_true k0
          refine RW.guardT rfl rfl k0 ?_
          refine RW.move rfl rfl ?_
          refine RW.pickB rfl rfl k0 rfl ?_
          refine RW.move rfl rfl ?_
          -- mq: guard slot 166
          refine RW.casesB 166 rfl (fun k1 => ?_) (fun k1 => ?_)
          · skip
            have k1p := of_decide_eq_true k1
            refine RW.guardT rfl rfl k1 ?_
            refine RW.move rfl rfl ?_
            refine RW.pickB rfl rfl k1 rfl ?_
            refine RW.move rfl rfl ?_
            -- mq: guard slot 169
            refine RW.casesB 169 rfl (fun k2 => ?_) (fun k2 => ?_)
            · skip
              have k2p := of_decide_eq_true k2
              refine RW.guardT rfl rfl k2 ?_
              refine RW.move rfl rfl ?_
              refine RW.guardT rfl rfl k2 ?_
              refine RW.lss rfl rfl rfl ?_
              refine RW.pickB rfl rfl k2 rfl ?_
              refine RW.move rfl rfl ?_
              -- mq: guard slot 173
              refine RW.casesB 173 rfl (fun k3 => ?_) (fun k3 => ?_)
              · skip
                have k3p := of_decide_eq_true k3
                refine RW.guardT rfl rfl k3 ?_
                refine RW.move rfl rfl ?_
                refine RW.guardT rfl rfl k3 ?_
                refine RW.lss rfl rfl rfl ?_
                refine RW.pickB rfl rfl k3 rfl ?_
                refine RW.move rfl rfl ?_
                -- mq: guard slot 177
                refine RW.casesB 177 rfl (fun k4 => ?_) (fun k4 => ?_)
                · skip
                  have k4p := of_decide_eq_true k4
                  refine RW.guardT rfl rfl k4 ?_
                  refine RW.move rfl rfl ?_
                  refine RW.guardT rfl rfl k4 ?_
                  refine RW.lss rfl rfl rfl ?_
                  refine RW.pickB rfl rfl k4 rfl ?_
                  refine RW.move rfl rfl ?_
                  refine RW.add rfl rfl rfl (wrap64 (by omega) (by omega)) ?_
                  refine RW.storeA ag23 rfl rfl (by first | exact Upd.head | exact Upd.tail Upd.head | exact Upd.tail (Upd.tail Upd.head) | exact Upd.tail (Upd.tail (Upd.tail Upd.head)) | exact Upd.tail (Upd.tail (Upd.tail (Upd.tail Upd.head))) | exact Upd.tail (Upd.tail (Upd.tail (Upd.tail (Upd.tail Upd.head)))) | exact Upd.tail (Upd.tail (Upd.tail (Upd.tail (Upd.tail (Upd.tail Upd.head)))))) (by first | rfl | exact Enc.len _ _) (by repeat (first | exact Ones.nil | exact Enc.ones _ _ | refine Ones.cons rfl ?_)) (by first | exact Nat.le_of_ble_eq_true rfl | (simp only [Enc.len]; decide)) ?_
                  refine RW.assign rfl rfl ?_
                  refine RW.assign rfl rfl ?_
                  refine RW.nil (EX.seq (CW.ret (EX.bkR (EX.seqR ?_))))
                  refine EX.fin3' Tryd.results28 (RV.cellA ag23 rfl (by first | exact Has.head | exact Has.tail Has.head | exact Has.tail (Has.tail Has.head) | exact Has.tail (Has.tail (Has.tail Has.head)) | exact Has.tail (Has.tail (Has.tail (Has.tail Has.head))) | exact Has.tail (Has.tail (Has.tail (Has.tail (Has.tail Has.head)))) | exact Has.tail (Has.tail (Has.tail (Has.tail (Has.tail (Has.tail Has.head)))))) rfl rfl) (RV.tmp rfl) (RV.tmp rfl) (fun wz hw => ?_)
                  -- mq: done
                  refine ⟨?_, hw.ext⟩
                  simp only [extC, extB, extN, hgd, if_neg hno, if_neg h5, if_pos h6]
                  refine congrArg (fun x => Ending.returned (.tuple #[_, Value.bool x, _])) ?_
                  first | (rw [decide_eq_decide]; omega) | (rw [eq_comm, decide_eq_false_iff_not]; omega) | (rw [eq_comm, decide_eq_true_iff]; omega)
                · skip
                  have k4p := of_decide_eq_false k4
                  refine RW.guardF rfl rfl rfl k4 ?_
                  refine RW.guardF rfl rfl rfl k4 ?_
                  refine RW.pickC rfl rfl k4 rfl ?_
                  refine RW.move rfl rfl ?_
                  refine RW.add rfl rfl rfl (wrap64 (by omega) (by omega)) ?_
                  refine RW.storeA ag23 rfl rfl (by first | exact Upd.head | exact Upd.tail Upd.head | exact Upd.tail (Upd.tail Upd.head) | exact Upd.tail (Upd.tail (Upd.tail Upd.head)) | exact Upd.tail (Upd.tail (Upd.tail (Upd.tail Upd.head))) | exact Upd.tail (Upd.tail (Upd.tail (Upd.tail (Upd.tail Upd.head)))) | exact Upd.tail (Upd.tail (Upd.tail (Upd.tail (Upd.tail (Upd.tail Upd.head)))))) (by first | rfl | exact Enc.len _ _) (by repeat (first | exact Ones.nil | exact Enc.ones _ _ | refine Ones.cons rfl ?_)) (by first | exact Nat.le_of_ble_eq_true rfl | (simp only [Enc.len]; decide)) ?_
                  refine RW.assign rfl rfl ?_
                  refine RW.assign rfl rfl ?_
                  refine RW.nil (EX.seq (CW.ret (EX.bkR (EX.seqR ?_))))
                  refine EX.fin3' Tryd.results28 (RV.cellA ag23 rfl (by first | exact Has.head | exact Has.tail Has.head | exact Has.tail (Has.tail Has.head) | exact Has.tail (Has.tail (Has.tail Has.head)) | exact Has.tail (Has.tail (Has.tail (Has.tail Has.head))) | exact Has.tail (Has.tail (Has.tail (Has.tail (Has.tail Has.head)))) | exact Has.tail (Has.tail (Has.tail (Has.tail (Has.tail (Has.tail Has.head)))))) rfl rfl) (RV.tmp rfl) (RV.tmp rfl) (fun wz hw => ?_)
                  -- mq: done
                  refine ⟨?_, hw.ext⟩
                  simp only [extC, extB, extN, hgd, if_neg hno, if_neg h5, if_pos h6]
                  refine congrArg (fun x => Ending.returned (.tuple #[_, Value.bool x, _])) ?_
                  first | (rw [decide_eq_decide]; omega) | (rw [eq_comm, decide_eq_false_iff_not]; omega) | (rw [eq_comm, decide_eq_true_iff]; omega)
              · skip
                have k3p := of_decide_eq_false k3
                refine RW.guardF rfl rfl rfl k3 ?_
                refine RW.guardF rfl rfl rfl k3 ?_
                refine RW.pickC rfl rfl k3 rfl ?_
                refine RW.move rfl rfl ?_
                refine RW.guardF rfl rfl rfl rfl ?_
                refine RW.guardF rfl rfl rfl rfl ?_
                refine RW.pickC rfl rfl rfl rfl ?_
                refine RW.move rfl rfl ?_
                refine RW.add rfl rfl rfl (wrap64 (by omega) (by omega)) ?_
                refine RW.storeA ag23 rfl rfl (by first | exact Upd.head | exact Upd.tail Upd.head | exact Upd.tail (Upd.tail Upd.head) | exact Upd.tail (Upd.tail (Upd.tail Upd.head)) | exact Upd.tail (Upd.tail (Upd.tail (Upd.tail Upd.head))) | exact Upd.tail (Upd.tail (Upd.tail (Upd.tail (Upd.tail Upd.head)))) | exact Upd.tail (Upd.tail (Upd.tail (Upd.tail (Upd.tail (Upd.tail Upd.head)))))) (by first | rfl | exact Enc.len _ _) (by repeat (first | exact Ones.nil | exact Enc.ones _ _ | refine Ones.cons rfl ?_)) (by first | exact Nat.le_of_ble_eq_true rfl | (simp only [Enc.len]; decide)) ?_
                refine RW.assign rfl rfl ?_
                refine RW.assign rfl rfl ?_
                refine RW.nil (EX.seq (CW.ret (EX.bkR (EX.seqR ?_))))
                refine EX.fin3' Tryd.results28 (RV.cellA ag23 rfl (by first | exact Has.head | exact Has.tail Has.head | exact Has.tail (Has.tail Has.head) | exact Has.tail (Has.tail (Has.tail Has.head)) | exact Has.tail (Has.tail (Has.tail (Has.tail Has.head))) | exact Has.tail (Has.tail (Has.tail (Has.tail (Has.tail Has.head)))) | exact Has.tail (Has.tail (Has.tail (Has.tail (Has.tail (Has.tail Has.head)))))) rfl rfl) (RV.tmp rfl) (RV.tmp rfl) (fun wz hw => ?_)
                -- mq: done
                refine ⟨?_, hw.ext⟩
                simp only [extC, extB, extN, hgd, if_neg hno, if_neg h5, if_pos h6]
                refine congrArg (fun x => Ending.returned (.tuple #[_, Value.bool x, _])) ?_
                first | (rw [decide_eq_decide]; omega) | (rw [eq_comm, decide_eq_false_iff_not]; omega) | (rw [eq_comm, decide_eq_true_iff]; omega)
            · skip
              have k2p := of_decide_eq_false k2
              refine RW.guardF rfl rfl rfl k2 ?_
              refine RW.guardF rfl rfl rfl k2 ?_
              refine RW.pickC rfl rfl k2 rfl ?_
              refine RW.move rfl rfl ?_
              refine RW.guardF rfl rfl rfl rfl ?_
              refine RW.guardF rfl rfl rfl rfl ?_
              refine RW.pickC rfl rfl rfl rfl ?_
              refine RW.move rfl rfl ?_
              refine RW.guardF rfl rfl rfl rfl ?_
              refine RW.guardF rfl rfl rfl rfl ?_
              refine RW.pickC rfl rfl rfl rfl ?_
              refine RW.move rfl rfl ?_
              refine RW.add rfl rfl rfl (wrap64 (by omega) (by omega)) ?_
              refine RW.storeA ag23 rfl rfl (by first | exact Upd.head | exact Upd.tail Upd.head | exact Upd.tail (Upd.tail Upd.head) | exact Upd.tail (Upd.tail (Upd.tail Upd.head)) | exact Upd.tail (Upd.tail (Upd.tail (Upd.tail Upd.head))) | exact Upd.tail (Upd.tail (Upd.tail (Upd.tail (Upd.tail Upd.head)))) | exact Upd.tail (Upd.tail (Upd.tail (Upd.tail (Upd.tail (Upd.tail Upd.head)))))) (by first | rfl | exact Enc.len _ _) (by repeat (first | exact Ones.nil | exact Enc.ones _ _ | refine Ones.cons rfl ?_)) (by first | exact Nat.le_of_ble_eq_true rfl | (simp only [Enc.len]; decide)) ?_
              refine RW.assign rfl rfl ?_
              refine RW.assign rfl rfl ?_
              refine RW.nil (EX.seq (CW.ret (EX.bkR (EX.seqR ?_))))
              refine EX.fin3' Tryd.results28 (RV.cellA ag23 rfl (by first | exact Has.head | exact Has.tail Has.head | exact Has.tail (Has.tail Has.head) | exact Has.tail (Has.tail (Has.tail Has.head)) | exact Has.tail (Has.tail (Has.tail (Has.tail Has.head))) | exact Has.tail (Has.tail (Has.tail (Has.tail (Has.tail Has.head)))) | exact Has.tail (Has.tail (Has.tail (Has.tail (Has.tail (Has.tail Has.head)))))) rfl rfl) (RV.tmp rfl) (RV.tmp rfl) (fun wz hw => ?_)
              -- mq: done
              refine ⟨?_, hw.ext⟩
              simp only [extC, extB, extN, hgd, if_neg hno, if_neg h5, if_pos h6]
              refine congrArg (fun x => Ending.returned (.tuple #[_, Value.bool x, _])) ?_
              first | (rw [decide_eq_decide]; omega) | (rw [eq_comm, decide_eq_false_iff_not]; omega) | (rw [eq_comm, decide_eq_true_iff]; omega)
          · skip
            have k1p := of_decide_eq_false k1
            refine RW.guardF rfl rfl rfl k1 ?_
            refine RW.pickC rfl rfl k1 rfl ?_
            refine RW.move rfl rfl ?_
            refine RW.guardF rfl rfl rfl rfl ?_
            refine RW.guardF rfl rfl rfl rfl ?_
            refine RW.pickC rfl rfl rfl rfl ?_
            refine RW.move rfl rfl ?_
            refine RW.guardF rfl rfl rfl rfl ?_
            refine RW.guardF rfl rfl rfl rfl ?_
            refine RW.pickC rfl rfl rfl rfl ?_
            refine RW.move rfl rfl ?_
            refine RW.guardF rfl rfl rfl rfl ?_
            refine RW.guardF rfl rfl rfl rfl ?_
            refine RW.pickC rfl rfl rfl rfl ?_
            refine RW.move rfl rfl ?_
            refine RW.add rfl rfl rfl (wrap64 (by omega) (by omega)) ?_
            refine RW.storeA ag23 rfl rfl (by first | exact Upd.head | exact Upd.tail Upd.head | exact Upd.tail (Upd.tail Upd.head) | exact Upd.tail (Upd.tail (Upd.tail Upd.head)) | exact Upd.tail (Upd.tail (Upd.tail (Upd.tail Upd.head))) | exact Upd.tail (Upd.tail (Upd.tail (Upd.tail (Upd.tail Upd.head)))) | exact Upd.tail (Upd.tail (Upd.tail (Upd.tail (Upd.tail (Upd.tail Upd.head)))))) (by first | rfl | exact Enc.len _ _) (by repeat (first | exact Ones.nil | exact Enc.ones _ _ | refine Ones.cons rfl ?_)) (by first | exact Nat.le_of_ble_eq_true rfl | (simp only [Enc.len]; decide)) ?_
            refine RW.assign rfl rfl ?_
            refine RW.assign rfl rfl ?_
            refine RW.nil (EX.seq (CW.ret (EX.bkR (EX.seqR ?_))))
            refine EX.fin3' Tryd.results28 (RV.cellA ag23 rfl (by first | exact Has.head | exact Has.tail Has.head | exact Has.tail (Has.tail Has.head) | exact Has.tail (Has.tail (Has.tail Has.head)) | exact Has.tail (Has.tail (Has.tail (Has.tail Has.head))) | exact Has.tail (Has.tail (Has.tail (Has.tail (Has.tail Has.head)))) | exact Has.tail (Has.tail (Has.tail (Has.tail (Has.tail (Has.tail Has.head)))))) rfl rfl) (RV.tmp rfl) (RV.tmp rfl) (fun wz hw => ?_)
            -- mq: done
            refine ⟨?_, hw.ext⟩
            simp only [extC, extB, extN, hgd, if_neg hno, if_neg h5, if_pos h6]
            refine congrArg (fun x => Ending.returned (.tuple #[_, Value.bool x, _])) ?_
            first | (rw [decide_eq_decide]; omega) | (rw [eq_comm, decide_eq_false_iff_not]; omega) | (rw [eq_comm, decide_eq_true_iff]; omega)
        · skip
          have k0p := of_decide_eq_false k0
          refine RW.guardF rfl rfl rfl k0 ?_
          refine RW.pickC rfl rfl k0 rfl ?_
          refine RW.move rfl rfl ?_
          refine RW.guardF rfl rfl rfl rfl ?_
          refine RW.pickC rfl rfl rfl rfl ?_
          refine RW.move rfl rfl ?_
          refine RW.guardF rfl rfl rfl rfl ?_
          refine RW.guardF rfl rfl rfl rfl ?_
          refine RW.pickC rfl rfl rfl rfl ?_
          refine RW.move rfl rfl ?_
          refine RW.guardF rfl rfl rfl rfl ?_
          refine RW.guardF rfl rfl rfl rfl ?_
          refine RW.pickC rfl rfl rfl rfl ?_
          refine RW.move rfl rfl ?_
          refine RW.guardF rfl rfl rfl rfl ?_
          refine RW.guardF rfl rfl rfl rfl ?_
          refine RW.pickC rfl rfl rfl rfl ?_
          refine RW.move rfl rfl ?_
          refine RW.add rfl rfl rfl (wrap64 (by omega) (by omega)) ?_
          refine RW.storeA ag23 rfl rfl (by first | exact Upd.head | exact Upd.tail Upd.head | exact Upd.tail (Upd.tail Upd.head) | exact Upd.tail (Upd.tail (Upd.tail Upd.head)) | exact Upd.tail (Upd.tail (Upd.tail (Upd.tail Upd.head))) | exact Upd.tail (Upd.tail (Upd.tail (Upd.tail (Upd.tail Upd.head)))) | exact Upd.tail (Upd.tail (Upd.tail (Upd.tail (Upd.tail (Upd.tail Upd.head)))))) (by first | rfl | exact Enc.len _ _) (by repeat (first | exact Ones.nil | exact Enc.ones _ _ | refine Ones.cons rfl ?_)) (by first | exact Nat.le_of_ble_eq_true rfl | (simp only [Enc.len]; decide)) ?_
          refine RW.assign rfl rfl ?_
          refine RW.assign rfl rfl ?_
          refine RW.nil (EX.seq (CW.ret (EX.bkR (EX.seqR ?_))))
          refine EX.fin3' Tryd.results28 (RV.cellA ag23 rfl (by first | exact Has.head | exact Has.tail Has.head | exact Has.tail (Has.tail Has.head) | exact Has.tail (Has.tail (Has.tail Has.head)) | exact Has.tail (Has.tail (Has.tail (Has.tail Has.head))) | exact Has.tail (Has.tail (Has.tail (Has.tail (Has.tail Has.head)))) | exact Has.tail (Has.tail (Has.tail (Has.tail (Has.tail (Has.tail Has.head)))))) rfl rfl) (RV.tmp rfl) (RV.tmp rfl) (fun wz hw => ?_)
          -- mq: done
          refine ⟨?_, hw.ext⟩
          simp only [extC, extB, extN, hgd, if_neg hno, if_neg h5, if_pos h6]
          refine congrArg (fun x => Ending.returned (.tuple #[_, Value.bool x, _])) ?_
          first | (rw [decide_eq_decide]; omega) | (rw [eq_comm, decide_eq_false_iff_not]; omega) | (rw [eq_comm, decide_eq_true_iff]; omega)
      · skip
        refine CW.skip (EX.bkN (EX.seq (CW.seq (CW.region ?_))))
        refine RW.buildS bu23 rfl rfl rfl ?_
        refine RW.move rfl rfl ?_
        refine RW.add rfl rfl rfl (wrap64 (by omega) (by omega)) ?_
        refine RW.storeA ag23 rfl rfl (by first | exact Upd.head | exact Upd.tail Upd.head | exact Upd.tail (Upd.tail Upd.head) | exact Upd.tail (Upd.tail (Upd.tail Upd.head)) | exact Upd.tail (Upd.tail (Upd.tail (Upd.tail Upd.head))) | exact Upd.tail (Upd.tail (Upd.tail (Upd.tail (Upd.tail Upd.head)))) | exact Upd.tail (Upd.tail (Upd.tail (Upd.tail (Upd.tail (Upd.tail Upd.head)))))) (by first | rfl | exact Enc.len _ _) (by repeat (first | exact Ones.nil | exact Enc.ones _ _ | refine Ones.cons rfl ?_)) (by first | exact Nat.le_of_ble_eq_true rfl | (simp only [Enc.len]; decide)) ?_
        refine RW.assign rfl rfl ?_
        refine RW.assign rfl rfl ?_
        refine RW.nil (EX.seq (CW.ret ?_))
        refine EX.fin3' Tryd.results28 (RV.cellA ag23 rfl (by first | exact Has.head | exact Has.tail Has.head | exact Has.tail (Has.tail Has.head) | exact Has.tail (Has.tail (Has.tail Has.head)) | exact Has.tail (Has.tail (Has.tail (Has.tail Has.head))) | exact Has.tail (Has.tail (Has.tail (Has.tail (Has.tail Has.head)))) | exact Has.tail (Has.tail (Has.tail (Has.tail (Has.tail (Has.tail Has.head)))))) rfl rfl) (RV.tmp rfl) (RV.tmp rfl) (fun wz hw => ?_)
        -- mq: done
        refine ⟨?_, hw.ext⟩
        simp only [extC, extB, extN, hgd, if_neg hno, if_neg h5, if_neg h6]
        rfl
end Go.Proofs.YtojfodeienchfaaDoor.Mq
