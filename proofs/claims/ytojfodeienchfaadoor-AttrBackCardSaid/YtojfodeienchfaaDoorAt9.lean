/- attributes: the walk of Turn (printed by gen9.py) -/
import Derived.Test.YtojfodeienchfaaDoorAt8
namespace Go.Proofs.YtojfodeienchfaaDoor.Mq
open Go Go.RowKit Go.Proofs

def setCol (v : Int) (o : Option (Int × Int)) (a : AtV) : AtV := match o with
  | none => a
  | some (k, n) => if v = 38 then ⟨k, n, a.bk, a.bn, a.fl⟩ else ⟨a.fk, a.fn, k, n, a.fl⟩
/-- the color that 38 or 48 means, and how many more groups are done with -/
def colG (gs : List (List Int)) (i : Nat) : Option (Int × Int) × Nat := if 1 < (gs.getD i []).length then (insF (gs.getD i []), 0) else behF gs i
def stepA (gs : List (List Int)) (i : Nat) (a : AtV) : AtV × Nat :=
  if firstV gs i = 4 then (⟨a.fk, a.fn, a.bk, a.bn, ((clrF a.fl.toNat 264 ||| lineF (gs.getD i []) : Nat) : Int)⟩, i + 1)
  else if firstV gs i = 38 ∨ firstV gs i = 48 then (setCol (firstV gs i) (colG gs i).1 a, i + (colG gs i).2 + 1)
  else (simpleV (firstV gs i) a, i + 1)
theorem stepA_lt (gs : List (List Int)) (i : Nat) (a : AtV) : i < (stepA gs i a).2 := by
  unfold stepA
  split
  · exact Nat.lt_succ_self _
  · split
    · dsimp only; omega
    · exact Nat.lt_succ_self _
def turnF (gs : List (List Int)) (i : Nat) (a : AtV) : AtV := if i < gs.length then turnF gs (stepA gs i a).2 (stepA gs i a).1 else a
termination_by gs.length - i
decreasing_by have := stepA_lt gs i a; omega
theorem behF_le {gs : List (List Int)} {i : Nat} (h : i < gs.length) : i + (behF gs i).2 + 1 ≤ gs.length := by
  unfold behF
  split
  · dsimp only; omega
  · split
    · dsimp only; omega
    · dsimp only; omega
theorem colG_le {gs : List (List Int)} {i : Nat} (h : i < gs.length) : i + (colG gs i).2 + 1 ≤ gs.length := by
  unfold colG
  split
  · dsimp only; omega
  · exact behF_le h
theorem lineF_lt (g : List Int) : lineF g < 1024 := by unfold lineF; repeat (first | decide | split)
def FlOk (a : AtV) : Prop := 0 ≤ a.fl ∧ a.fl < 1024
theorem simpleV_fl {v : Int} {a : AtV} (h : FlOk a) : FlOk (simpleV v a) := by
  unfold simpleV
  split
  · exact ⟨Int.le_refl 0, by show (0 : Int) < 1024; decide⟩
  · have := simpFl_lt v (n := a.fl.toNat) (by have := h.1; have := h.2; omega)
    constructor <;> dsimp only <;> omega
theorem turnF_in {gs : List (List Int)} {i : Nat} {a b : AtV} {j : Nat} (h : i < gs.length) (hs : stepA gs i a = (b, j)) : turnF gs i a = turnF gs j b := by
  rw [turnF, if_pos h, hs]
theorem turnF_out {gs : List (List Int)} {i : Nat} {a : AtV} (h : gs.length ≤ i) : turnF gs i a = a := by
  rw [turnF, if_neg (by omega)]
theorem turn_c (w : World) (F : Nat → Prop) (A : Option Addr) (n c : Nat) (gs : List (List Int)) (hr : RdG w F A n c gs) (hc : Cl gs) (a0 : AtV) (ha0 : FlOk a0) :
    Calls Tryd.prog 13 [atV a0, .slice A n c].toArray w (fun e w' => e = .returned (atV (turnF gs 0 a0)) ∧ Ext [] w w') := by
  have hl := hr.len
  have h32 := hc.1
  refine calls (n := 78) Tryd.func13 rfl Tryd.ntmps13 rfl ?_
  refine CW.sub (H' := SH w [] []) ?_ (Sub.refl _) (fun x hx => SH.start' _ _ hx)
  refine CW.seq (CW.region ?_)
  refine RW.boxA rfl rfl (fun g2 hg2 hf2 => ?_)
  refine RW.allocA ag25 rfl (fun g4 hg4 hf4 => ?_)
  refine RW.nil (EX.seq (CW.seq (CW.seq (CW.region ?_))))
  refine RW.assign rfl rfl ?_
  refine RW.nil (EX.seq (CW.block ?_))
  -- mq: loop
  refine CW.loop (ι := Nat × AtV) (fun t => [(1, .slice A n c), (2, .pointer (some ⟨g2, 0, none⟩)), (4, .pointer (some ⟨g4, 0, none⟩)), (5, .int .i64 (t.1 : Int))]) (fun t => SH w [] [blk g4 [.int .i64 0, .int .i64 0, .int .i64 0, .int .i64 0, .int .i64 0] 25, blk g2 [.int .i64 t.2.fk, .int .i64 t.2.fn, .int .i64 t.2.bk, .int .i64 t.2.bn, .int .i64 t.2.fl] 25]) (fun t => t.1 ≤ n ∧ FlOk t.2 ∧ turnF gs t.1 t.2 = turnF gs 0 a0) (fun t => n - t.1) ?_ ?_
  · exact fun w' hw' => ⟨(0, a0), ⟨Nat.zero_le _, ha0, rfl⟩, (by repeat (first | exact Sub.nil | refine Sub.cons (by rfl) ?_)), hw'⟩
  · rintro ⟨i, a⟩ ⟨hi, hfl, hturn⟩
    obtain ⟨fk, fn, bk, bn, fli⟩ := a
    obtain ⟨fl, rfl⟩ : ∃ m : Nat, fli = m := ⟨fli.toNat, by have := hfl.1; dsimp only at this; omega⟩
    have hfl2 : fl < 1024 := by have := hfl.2; dsimp only at this; omega
    dsimp only at hi hturn ⊢
    refine CW.seq (CW.seq (CW.region ?_))
    refine RW.move rfl rfl ?_
    refine RW.move rfl rfl ?_
    refine RW.lenSl Tryd.underlying28 rfl rfl ?_
    refine RW.lss rfl rfl rfl ?_
    refine RW.nil (EX.seq ?_)
    -- mq: cond
    first | refine CW.condD rfl (fun hlt => ?_) (fun hlt => ?_) | refine CW.cond rfl (fun hlt => ?_) (fun hlt => ?_)
    · skip
      have hi2 : i < gs.length := by omega
      obtain ⟨g, hg⟩ : ∃ g, gs[i]? = some g := ⟨gs[i]'hi2, List.getElem?_eq_getElem _⟩
      have hgd : gs.getD i [] = g := by rw [List.getD_eq_getElem?_getD, hg]; rfl
      obtain ⟨ad, X, p, q, hA, _, hcell, hrd⟩ := hr.at_ hg
      have hp := hrd.len
      have hg8 := (hc.2 g (List.mem_of_getElem? hg)).2.1
      have hv := firstV_range hc i
      refine CW.skip (EX.seq (CW.seq (CW.block (CW.seq (CW.region ?_)))))
      refine RW.move rfl rfl ?_
      refine RW.move rfl rfl ?_
      refine RW.call rfl ca22 rfl (fun w' hw' => first_c w' _ _ _ _ gs (hr.ext hw'.ext (by simp)) hc i (by omega)) ?_
      refine RW.assign rfl rfl ?_
      refine RW.nil (EX.seq (CW.seq (CW.region ?_)))
      refine RW.move rfl rfl ?_
      refine RW.nil (EX.seq (CW.block (CW.seq (CW.region ?_))))
      refine RW.eqlI rfl rfl rfl ?_
      refine RW.assign rfl rfl ?_
      refine RW.nil (EX.seq ?_)
      -- mq: cond
      first | refine CW.condD rfl (fun h4 => ?_) (fun h4 => ?_) | refine CW.cond rfl (fun h4 => ?_) (fun h4 => ?_)
      · skip
        have hL := lineF_lt g
        have hC : clrF fl 264 < 1024 := Nat.lt_of_le_of_lt (clrF_le _ _) hfl2
        refine CW.drawU [0, 1, 2, 3, 4, 5, 6] 2 [[(7, false, [8, 9]), (10, true, [])]] (SH w [] [blk g4 [.int .i64 0, .int .i64 0, .int .i64 0, .int .i64 0, .int .i64 0] 25, blk g2 [.int .i64 fk, .int .i64 fn, .int .i64 bk, .int .i64 bn, .int .i64 (fl : Int)] 25]) mixed (by kernel_rfl) (fun _ hw => hw.drew) (fun _ h => (by first | trivial | exact h | exact h.ch | exact (h.rem Rem.head).ch | exact ((h.rem Rem.head).rem Rem.head).ch | exact (((h.rem Rem.head).rem Rem.head).rem Rem.head).ch)) ?_
        refine QuP.cons rfl (fun wq hq => (RW.fieldB fl25x2 rfl rfl RW.jn)) ?_
        refine QuP.cons rfl (fun wq hq => (RW.load1 sc3 rfl rfl (fun w1 e1 => by subst e1; exact hq.blk_cell (by first | exact Has.head | exact Has.tail Has.head | exact Has.tail (Has.tail Has.head) | exact Has.tail (Has.tail (Has.tail Has.head)) | exact Has.tail (Has.tail (Has.tail (Has.tail Has.head))) | exact Has.tail (Has.tail (Has.tail (Has.tail (Has.tail Has.head)))) | exact Has.tail (Has.tail (Has.tail (Has.tail (Has.tail (Has.tail Has.head)))))) rfl) RW.jn)) ?_
        refine QuP.cons rfl (fun wq hq => (RW.andNot_ (r := (clrF fl 264 : Int)) rfl rfl rfl (clr_i64 (f := 264) hfl2 (by decide)) RW.jn)) ?_
        refine QuP.cons rfl (fun wq hq => (RW.move rfl rfl RW.jn)) ?_
        refine QuP.cons rfl (fun wq hq => (RW.move rfl rfl RW.jn)) ?_
        refine QuP.cons rfl (fun wq hq => (RW.ixAddr (q := i) sl28 rfl rfl rfl (by first | rfl | assumption) (by omega) (by omega) RW.jn)) ?_
        refine QuP.cons rfl (fun wq hq => (RW.load1 sc40 rfl rfl (fun w1 e1 => by subst e1; exact (hq.base_cell hcell (by simp [feet]))) RW.jn)) ?_
        refine QuP.nil ?_
        refine UW.step [_] rfl (List.forall_mem_cons.2 ⟨?_, by simp⟩)
        refine RW.call rfl ca23 rfl (fun w' hw' => line_c w' _ _ _ _ g (hrd.ext hw'.ext (by simp)) (by omega)) ?_
        refine RW.st (fun _ => True) (fun _ h => .inr (by first | trivial | exact h | exact h.ch | exact (h.rem Rem.head).ch | exact ((h.rem Rem.head).rem Rem.head).ch | exact (((h.rem Rem.head).rem Rem.head).rem Rem.head).ch)) (fun _ h => trivial) ?_
        refine QuP.cons rfl (fun wq hq => (RW.or_ (r := ((clrF fl 264 ||| lineF g : Nat) : Int)) rfl rfl rfl (set_i64 hC hL) RW.jn)) ?_
        refine QuP.cons rfl (fun wq hq => (RW.fieldB fl25x2 rfl rfl RW.jn)) ?_
        refine QuP.nil ?_
        refine UW.step [_] rfl (List.forall_mem_cons.2 ⟨?_, by simp⟩)
        refine RW.store1 sc3 rfl rfl (by first | exact Upd.head | exact Upd.tail Upd.head | exact Upd.tail (Upd.tail Upd.head) | exact Upd.tail (Upd.tail (Upd.tail Upd.head)) | exact Upd.tail (Upd.tail (Upd.tail (Upd.tail Upd.head))) | exact Upd.tail (Upd.tail (Upd.tail (Upd.tail (Upd.tail Upd.head)))) | exact Upd.tail (Upd.tail (Upd.tail (Upd.tail (Upd.tail (Upd.tail Upd.head)))))) rfl (by first | exact Nat.le_of_ble_eq_true rfl | simp) ?_
        refine RW.st (fun _ => True) (fun _ _ => .inl rfl) (fun _ h => trivial) ?_
        refine QuP.nil ?_
        refine UW.nil (EX.bkN (EX.bkN (EX.seq (CW.region ?_))))
        refine RW.move rfl rfl ?_
        refine RW.add rfl rfl rfl (wrap64 (by omega) (by omega)) ?_
        refine RW.assign rfl rfl ?_
        refine RW.nil ?_
        -- mq: loopend
        have hs : stepA gs i ⟨fk, fn, bk, bn, (fl : Int)⟩ = (⟨fk, fn, bk, bn, ((clrF fl 264 ||| lineF g : Nat) : Int)⟩, i + 1) := by
          rw [stepA, if_pos h4, hgd]; rfl
        have hlt2 := setF_lt hC hL
        refine EX.lpN (i + 1, ⟨fk, fn, bk, bn, ((clrF fl 264 ||| lineF g : Nat) : Int)⟩) ⟨by dsimp only; omega, ⟨by dsimp only; omega, by dsimp only; omega⟩, by dsimp only; rw [← turnF_in hi2 hs]; exact hturn⟩ (by dsimp only; omega) (by repeat (first | exact Sub.nil | refine Sub.cons (by rfl) ?_)) (fun w' hw' => hw')
      · skip
        refine CW.seq (CW.seq (CW.region ?_))
        refine RW.eqlI rfl rfl rfl ?_
        refine RW.assign rfl rfl ?_
        refine RW.nil (EX.seq ?_)
        -- mq: cond
        first | refine CW.condD rfl (fun h38 => ?_) (fun h38 => ?_) | refine CW.cond rfl (fun h38 => ?_) (fun h38 => ?_)
        · skip
          refine CW.skip (EX.seq ?_)
          -- mq: cond
          refine CW.condT rfl ((decide_eq_true h38)) ?_
          refine CW.seq (CW.region ?_)
          refine RW.buildS bu23 rfl rfl rfl ?_
          refine RW.allocA ag23 rfl (fun g7 hg7 hf7 => ?_)
          refine RW.storeA ag23 rfl rfl (by first | exact Upd.head | exact Upd.tail Upd.head | exact Upd.tail (Upd.tail Upd.head) | exact Upd.tail (Upd.tail (Upd.tail Upd.head)) | exact Upd.tail (Upd.tail (Upd.tail (Upd.tail Upd.head))) | exact Upd.tail (Upd.tail (Upd.tail (Upd.tail (Upd.tail Upd.head)))) | exact Upd.tail (Upd.tail (Upd.tail (Upd.tail (Upd.tail (Upd.tail Upd.head)))))) (by first | rfl | exact Enc.len _ _) (by repeat (first | exact Ones.nil | exact Enc.ones _ _ | refine Ones.cons rfl ?_)) (by first | exact Nat.le_of_ble_eq_true rfl | (simp only [Enc.len]; decide)) ?_
          refine RW.assign rfl rfl ?_
          refine RW.nil (EX.seq (CW.seq ?_))
          -- mq: seq
          refine CW.join ([(1, .slice A n c), (2, .pointer (some ⟨g2, 0, none⟩)), (4, .pointer (some ⟨g4, 0, none⟩)), (5, .int .i64 ((i + (colG gs i).2 : Nat) : Int)), (6, .int .i64 (firstV gs i)), (7, .pointer (some ⟨g7, 0, none⟩)), (8, .bool (colG gs i).1.isSome)]) (SH w [] [blk g7 [.int .i64 ((colG gs i).1.getD (0, 0)).1, .int .i64 ((colG gs i).1.getD (0, 0)).2] 23, blk g4 [.int .i64 0, .int .i64 0, .int .i64 0, .int .i64 0, .int .i64 0] 25, blk g2 [.int .i64 fk, .int .i64 fn, .int .i64 bk, .int .i64 bn, .int .i64 (fl : Int)] 25]) ?_ ?_
          · skip
            refine CW.seq (CW.region ?_)
            refine RW.move rfl rfl ?_
            refine RW.move rfl rfl ?_
            refine RW.ixAddr (q := i) sl28 rfl rfl rfl (by first | rfl | assumption) (by omega) (by omega) ?_
            refine RW.load1 sc40 rfl rfl (fun w' hw' => hw'.base_cell hcell (by simp [feet])) ?_
            refine RW.lenSl Tryd.underlying40 rfl rfl ?_
            refine RW.gtr rfl rfl rfl ?_
            refine RW.nil (EX.seq ?_)
            -- mq: cond
            first | refine CW.condD rfl (fun h5 => ?_) (fun h5 => ?_) | refine CW.cond rfl (fun h5 => ?_) (fun h5 => ?_)
            · skip
              refine CW.region ?_
              refine RW.move rfl rfl ?_
              refine RW.move rfl rfl ?_
              refine RW.ixAddr (q := i) sl28 rfl rfl rfl (by first | rfl | assumption) (by omega) (by omega) ?_
              refine RW.load1 sc40 rfl rfl (fun w' hw' => hw'.base_cell hcell (by simp [feet])) ?_
              -- mq: op 4: ('Op.call', ('Call.mk', ('Callee.value', ('Operand.func', '24')), ('arr', ('Operand.tmp', '49')), ('arr', '40'))) -> slot 50 ("attr.go:192")
              refine RW.call rfl ca24 rfl (fun w' hw' => inside_c w' _ _ _ _ g (hrd.ext hw'.ext (by simp)) (by omega) (by omega)) ?_
              refine RW.move rfl rfl ?_
              refine RW.extract rfl rfl rfl ?_
              refine RW.extract rfl rfl rfl ?_
              refine RW.storeA ag23 rfl rfl (by first | exact Upd.head | exact Upd.tail Upd.head | exact Upd.tail (Upd.tail Upd.head) | exact Upd.tail (Upd.tail (Upd.tail Upd.head)) | exact Upd.tail (Upd.tail (Upd.tail (Upd.tail Upd.head))) | exact Upd.tail (Upd.tail (Upd.tail (Upd.tail (Upd.tail Upd.head)))) | exact Upd.tail (Upd.tail (Upd.tail (Upd.tail (Upd.tail (Upd.tail Upd.head)))))) (by first | rfl | exact Enc.len _ _) (by repeat (first | exact Ones.nil | exact Enc.ones _ _ | refine Ones.cons rfl ?_)) (by first | exact Nat.le_of_ble_eq_true rfl | (simp only [Enc.len]; decide)) ?_
              refine RW.assign rfl rfl ?_
              refine RW.nil ?_
              -- mq: joinend
              have hcg : colG gs i = (insF g, 0) := by rw [colG, hgd, if_pos (by omega)]
              rw [hcg]
              exact EX.jn (by repeat (first | exact Sub.nil | refine Sub.cons (by rfl) ?_)) (fun _ h => h)
            · skip
              refine CW.seq (CW.region ?_)
              refine RW.assign rfl rfl ?_
              refine RW.nil (EX.seq (CW.seq (CW.region ?_)))
              refine RW.move rfl rfl ?_
              refine RW.move rfl rfl ?_
              -- mq: op 2: ('Op.call', ('Call.mk', ('Callee.value', ('Operand.func', '25')), ('arr', ('Operand.tmp', '54'), ('Operand.tmp', '55')), ('arr', '28', '3'))) -> slot 56 ("attr.go:195")
              refine RW.call rfl ca25 rfl (fun w' hw' => behind_c w' _ _ _ _ gs (hr.ext hw'.ext (by simp)) hc i (by omega)) ?_
              have hbl := behF_le hi2
              refine RW.move rfl rfl ?_
              refine RW.extract rfl rfl rfl ?_
              refine RW.extract rfl rfl rfl ?_
              refine RW.extract rfl rfl rfl ?_
              refine RW.storeA ag23 rfl rfl (by first | exact Upd.head | exact Upd.tail Upd.head | exact Upd.tail (Upd.tail Upd.head) | exact Upd.tail (Upd.tail (Upd.tail Upd.head)) | exact Upd.tail (Upd.tail (Upd.tail (Upd.tail Upd.head))) | exact Upd.tail (Upd.tail (Upd.tail (Upd.tail (Upd.tail Upd.head)))) | exact Upd.tail (Upd.tail (Upd.tail (Upd.tail (Upd.tail (Upd.tail Upd.head)))))) (by first | rfl | exact Enc.len _ _) (by repeat (first | exact Ones.nil | exact Enc.ones _ _ | refine Ones.cons rfl ?_)) (by first | exact Nat.le_of_ble_eq_true rfl | (simp only [Enc.len]; decide)) ?_
              refine RW.assign rfl rfl ?_
              refine RW.assign rfl rfl ?_
              refine RW.nil (EX.seq (CW.region ?_))
              refine RW.move rfl rfl ?_
              refine RW.move rfl rfl ?_
              refine RW.add rfl rfl rfl (wrap64 (by omega) (by omega)) ?_
              refine RW.assign rfl rfl ?_
              refine RW.nil ?_
              -- mq: joinend
              have hcg : colG gs i = behF gs i := by rw [colG, hgd, if_neg (by omega)]
              rw [hcg, Int.natCast_add]
              exact EX.jn (by repeat (first | exact Sub.nil | refine Sub.cons (by rfl) ?_)) (fun _ h => h)
          · skip
            have hcl := colG_le hi2
            have hs : stepA gs i ⟨fk, fn, bk, bn, (fl : Int)⟩ = (setCol (firstV gs i) (colG gs i).1 ⟨fk, fn, bk, bn, (fl : Int)⟩, i + (colG gs i).2 + 1) := by
              rw [stepA, if_neg h4, if_pos (by omega)]
            generalize colG gs i = r at hcl hs
            obtain ⟨co, m⟩ := r
            dsimp only at hcl hs ⊢
            cases co with
            | none =>
              refine EX.seq (CW.seq (CW.seq (CW.region ?_)))
              refine RW.move rfl rfl ?_
              refine RW.move rfl rfl ?_
              -- mq: guard slot 64
              refine RW.guardF rfl rfl rfl rfl ?_
              refine RW.guardF rfl rfl rfl rfl ?_
              refine RW.pickC rfl rfl rfl rfl ?_
              refine RW.nil (EX.seq ?_)
              -- mq: cond
              refine CW.condF rfl (rfl) ?_
              refine CW.skip (EX.seq (CW.seq (CW.region ?_)))
              refine RW.move rfl rfl ?_
              refine RW.move rfl rfl ?_
              -- mq: guard slot 71
              refine RW.guardF rfl rfl rfl rfl ?_
              refine RW.guardF rfl rfl rfl rfl ?_
              refine RW.pickC rfl rfl rfl rfl ?_
              refine RW.nil (EX.seq ?_)
              -- mq: cond
              refine CW.condF rfl (rfl) ?_
              refine CW.skip (EX.bkN (EX.bkN (EX.seq (CW.region ?_))))
              refine RW.move rfl rfl ?_
              refine RW.add rfl rfl rfl (wrap64 (by omega) (by omega)) ?_
              refine RW.assign rfl rfl ?_
              refine RW.nil ?_
              -- mq: loopend
              refine EX.lpN (i + m + 1, ⟨fk, fn, bk, bn, (fl : Int)⟩) ⟨by dsimp only; omega, hfl, by dsimp only; rw [← hturn, turnF_in hi2 hs]; rfl⟩ (by dsimp only; omega) (by repeat (first | exact Sub.nil | refine Sub.cons (by rfl) ?_)) (fun w' hw' => hw'.rem Rem.head)
            | some kn =>
              obtain ⟨k, kv⟩ := kn
              refine EX.seq (CW.seq (CW.seq (CW.region ?_)))
              refine RW.move rfl rfl ?_
              refine RW.move rfl rfl ?_
              -- mq: guard slot 64
              refine RW.guardT rfl rfl rfl ?_
              refine RW.move rfl rfl ?_
              refine RW.guardT rfl rfl rfl ?_
              refine RW.eqlI rfl rfl rfl ?_
              refine RW.pickB rfl rfl rfl rfl ?_
              refine RW.nil (EX.seq ?_)
              -- mq: cond
              refine CW.condT rfl ((decide_eq_true h38)) ?_
              refine CW.region ?_
              refine RW.loadBA ag23 rfl rfl (by first | exact Has.head | exact Has.tail Has.head | exact Has.tail (Has.tail Has.head) | exact Has.tail (Has.tail (Has.tail Has.head)) | exact Has.tail (Has.tail (Has.tail (Has.tail Has.head))) | exact Has.tail (Has.tail (Has.tail (Has.tail (Has.tail Has.head)))) | exact Has.tail (Has.tail (Has.tail (Has.tail (Has.tail (Has.tail Has.head)))))) rfl rfl ?_
              refine RW.fieldB fl25x0 rfl rfl ?_
              refine RW.storeA ag23 rfl rfl (by first | exact Upd.head | exact Upd.tail Upd.head | exact Upd.tail (Upd.tail Upd.head) | exact Upd.tail (Upd.tail (Upd.tail Upd.head)) | exact Upd.tail (Upd.tail (Upd.tail (Upd.tail Upd.head))) | exact Upd.tail (Upd.tail (Upd.tail (Upd.tail (Upd.tail Upd.head)))) | exact Upd.tail (Upd.tail (Upd.tail (Upd.tail (Upd.tail (Upd.tail Upd.head)))))) (by first | rfl | exact Enc.len _ _) (by repeat (first | exact Ones.nil | exact Enc.ones _ _ | refine Ones.cons rfl ?_)) (by first | exact Nat.le_of_ble_eq_true rfl | (simp only [Enc.len]; decide)) ?_
              refine RW.nil (EX.seq (CW.seq (CW.region ?_)))
              refine RW.move rfl rfl ?_
              refine RW.move rfl rfl ?_
              -- mq: guard slot 71
              refine RW.guardT rfl rfl rfl ?_
              refine RW.move rfl rfl ?_
              refine RW.guardT rfl rfl rfl ?_
              refine RW.eqlI rfl rfl rfl ?_
              refine RW.pickB rfl rfl rfl rfl ?_
              refine RW.nil (EX.seq ?_)
              -- mq: cond
              refine CW.condF rfl ((decide_eq_false (by omega))) ?_
              refine CW.skip (EX.bkN (EX.bkN (EX.seq (CW.region ?_))))
              refine RW.move rfl rfl ?_
              refine RW.add rfl rfl rfl (wrap64 (by omega) (by omega)) ?_
              refine RW.assign rfl rfl ?_
              refine RW.nil ?_
              -- mq: loopend
              refine EX.lpN (i + m + 1, ⟨k, kv, bk, bn, (fl : Int)⟩) ⟨by dsimp only; omega, ⟨hfl.1, hfl.2⟩, by dsimp only; rw [← hturn, turnF_in hi2 hs]; simp only [setCol, if_pos h38]⟩ (by dsimp only; omega) (by repeat (first | exact Sub.nil | refine Sub.cons (by rfl) ?_)) (fun w' hw' => hw'.rem Rem.head)
        · skip
          refine CW.region ?_
          refine RW.eqlI rfl rfl rfl ?_
          refine RW.assign rfl rfl ?_
          refine RW.nil (EX.seq ?_)
          -- mq: cond
          first | refine CW.condD rfl (fun h48 => ?_) (fun h48 => ?_) | refine CW.cond rfl (fun h48 => ?_) (fun h48 => ?_)
          · skip
            refine CW.seq (CW.region ?_)
            refine RW.buildS bu23 rfl rfl rfl ?_
            refine RW.allocA ag23 rfl (fun g7 hg7 hf7 => ?_)
            refine RW.storeA ag23 rfl rfl (by first | exact Upd.head | exact Upd.tail Upd.head | exact Upd.tail (Upd.tail Upd.head) | exact Upd.tail (Upd.tail (Upd.tail Upd.head)) | exact Upd.tail (Upd.tail (Upd.tail (Upd.tail Upd.head))) | exact Upd.tail (Upd.tail (Upd.tail (Upd.tail (Upd.tail Upd.head)))) | exact Upd.tail (Upd.tail (Upd.tail (Upd.tail (Upd.tail (Upd.tail Upd.head)))))) (by first | rfl | exact Enc.len _ _) (by repeat (first | exact Ones.nil | exact Enc.ones _ _ | refine Ones.cons rfl ?_)) (by first | exact Nat.le_of_ble_eq_true rfl | (simp only [Enc.len]; decide)) ?_
            refine RW.assign rfl rfl ?_
            refine RW.nil (EX.seq (CW.seq ?_))
            -- mq: seq
            refine CW.join ([(1, .slice A n c), (2, .pointer (some ⟨g2, 0, none⟩)), (4, .pointer (some ⟨g4, 0, none⟩)), (5, .int .i64 ((i + (colG gs i).2 : Nat) : Int)), (6, .int .i64 (firstV gs i)), (7, .pointer (some ⟨g7, 0, none⟩)), (8, .bool (colG gs i).1.isSome)]) (SH w [] [blk g7 [.int .i64 ((colG gs i).1.getD (0, 0)).1, .int .i64 ((colG gs i).1.getD (0, 0)).2] 23, blk g4 [.int .i64 0, .int .i64 0, .int .i64 0, .int .i64 0, .int .i64 0] 25, blk g2 [.int .i64 fk, .int .i64 fn, .int .i64 bk, .int .i64 bn, .int .i64 (fl : Int)] 25]) ?_ ?_
            · skip
              refine CW.seq (CW.region ?_)
              refine RW.move rfl rfl ?_
              refine RW.move rfl rfl ?_
              refine RW.ixAddr (q := i) sl28 rfl rfl rfl (by first | rfl | assumption) (by omega) (by omega) ?_
              refine RW.load1 sc40 rfl rfl (fun w' hw' => hw'.base_cell hcell (by simp [feet])) ?_
              refine RW.lenSl Tryd.underlying40 rfl rfl ?_
              refine RW.gtr rfl rfl rfl ?_
              refine RW.nil (EX.seq ?_)
              -- mq: cond
              first | refine CW.condD rfl (fun h5 => ?_) (fun h5 => ?_) | refine CW.cond rfl (fun h5 => ?_) (fun h5 => ?_)
              · skip
                refine CW.region ?_
                refine RW.move rfl rfl ?_
                refine RW.move rfl rfl ?_
                refine RW.ixAddr (q := i) sl28 rfl rfl rfl (by first | rfl | assumption) (by omega) (by omega) ?_
                refine RW.load1 sc40 rfl rfl (fun w' hw' => hw'.base_cell hcell (by simp [feet])) ?_
                -- mq: op 4: ('Op.call', ('Call.mk', ('Callee.value', ('Operand.func', '24')), ('arr', ('Operand.tmp', '49')), ('arr', '40'))) -> slot 50 ("attr.go:192")
                refine RW.call rfl ca24 rfl (fun w' hw' => inside_c w' _ _ _ _ g (hrd.ext hw'.ext (by simp)) (by omega) (by omega)) ?_
                refine RW.move rfl rfl ?_
                refine RW.extract rfl rfl rfl ?_
                refine RW.extract rfl rfl rfl ?_
                refine RW.storeA ag23 rfl rfl (by first | exact Upd.head | exact Upd.tail Upd.head | exact Upd.tail (Upd.tail Upd.head) | exact Upd.tail (Upd.tail (Upd.tail Upd.head)) | exact Upd.tail (Upd.tail (Upd.tail (Upd.tail Upd.head))) | exact Upd.tail (Upd.tail (Upd.tail (Upd.tail (Upd.tail Upd.head)))) | exact Upd.tail (Upd.tail (Upd.tail (Upd.tail (Upd.tail (Upd.tail Upd.head)))))) (by first | rfl | exact Enc.len _ _) (by repeat (first | exact Ones.nil | exact Enc.ones _ _ | refine Ones.cons rfl ?_)) (by first | exact Nat.le_of_ble_eq_true rfl | (simp only [Enc.len]; decide)) ?_
                refine RW.assign rfl rfl ?_
                refine RW.nil ?_
                -- mq: joinend
                have hcg : colG gs i = (insF g, 0) := by rw [colG, hgd, if_pos (by omega)]
                rw [hcg]
                exact EX.jn (by repeat (first | exact Sub.nil | refine Sub.cons (by rfl) ?_)) (fun _ h => h)
              · skip
                refine CW.seq (CW.region ?_)
                refine RW.assign rfl rfl ?_
                refine RW.nil (EX.seq (CW.seq (CW.region ?_)))
                refine RW.move rfl rfl ?_
                refine RW.move rfl rfl ?_
                -- mq: op 2: ('Op.call', ('Call.mk', ('Callee.value', ('Operand.func', '25')), ('arr', ('Operand.tmp', '54'), ('Operand.tmp', '55')), ('arr', '28', '3'))) -> slot 56 ("attr.go:195")
                refine RW.call rfl ca25 rfl (fun w' hw' => behind_c w' _ _ _ _ gs (hr.ext hw'.ext (by simp)) hc i (by omega)) ?_
                have hbl := behF_le hi2
                refine RW.move rfl rfl ?_
                refine RW.extract rfl rfl rfl ?_
                refine RW.extract rfl rfl rfl ?_
                refine RW.extract rfl rfl rfl ?_
                refine RW.storeA ag23 rfl rfl (by first | exact Upd.head | exact Upd.tail Upd.head | exact Upd.tail (Upd.tail Upd.head) | exact Upd.tail (Upd.tail (Upd.tail Upd.head)) | exact Upd.tail (Upd.tail (Upd.tail (Upd.tail Upd.head))) | exact Upd.tail (Upd.tail (Upd.tail (Upd.tail (Upd.tail Upd.head)))) | exact Upd.tail (Upd.tail (Upd.tail (Upd.tail (Upd.tail (Upd.tail Upd.head)))))) (by first | rfl | exact Enc.len _ _) (by repeat (first | exact Ones.nil | exact Enc.ones _ _ | refine Ones.cons rfl ?_)) (by first | exact Nat.le_of_ble_eq_true rfl | (simp only [Enc.len]; decide)) ?_
                refine RW.assign rfl rfl ?_
                refine RW.assign rfl rfl ?_
                refine RW.nil (EX.seq (CW.region ?_))
                refine RW.move rfl rfl ?_
                refine RW.move rfl rfl ?_
                refine RW.add rfl rfl rfl (wrap64 (by omega) (by omega)) ?_
                refine RW.assign rfl rfl ?_
                refine RW.nil ?_
                -- mq: joinend
                have hcg : colG gs i = behF gs i := by rw [colG, hgd, if_neg (by omega)]
                rw [hcg, Int.natCast_add]
                exact EX.jn (by repeat (first | exact Sub.nil | refine Sub.cons (by rfl) ?_)) (fun _ h => h)
            · skip
              have hcl := colG_le hi2
              have hs : stepA gs i ⟨fk, fn, bk, bn, (fl : Int)⟩ = (setCol (firstV gs i) (colG gs i).1 ⟨fk, fn, bk, bn, (fl : Int)⟩, i + (colG gs i).2 + 1) := by
                rw [stepA, if_neg h4, if_pos (by omega)]
              generalize colG gs i = r at hcl hs
              obtain ⟨co, m⟩ := r
              dsimp only at hcl hs ⊢
              cases co with
              | none =>
                refine EX.seq (CW.seq (CW.seq (CW.region ?_)))
                refine RW.move rfl rfl ?_
                refine RW.move rfl rfl ?_
                -- mq: guard slot 64
                refine RW.guardF rfl rfl rfl rfl ?_
                refine RW.guardF rfl rfl rfl rfl ?_
                refine RW.pickC rfl rfl rfl rfl ?_
                refine RW.nil (EX.seq ?_)
                -- mq: cond
                refine CW.condF rfl (rfl) ?_
                refine CW.skip (EX.seq (CW.seq (CW.region ?_)))
                refine RW.move rfl rfl ?_
                refine RW.move rfl rfl ?_
                -- mq: guard slot 71
                refine RW.guardF rfl rfl rfl rfl ?_
                refine RW.guardF rfl rfl rfl rfl ?_
                refine RW.pickC rfl rfl rfl rfl ?_
                refine RW.nil (EX.seq ?_)
                -- mq: cond
                refine CW.condF rfl (rfl) ?_
                refine CW.skip (EX.bkN (EX.bkN (EX.seq (CW.region ?_))))
                refine RW.move rfl rfl ?_
                refine RW.add rfl rfl rfl (wrap64 (by omega) (by omega)) ?_
                refine RW.assign rfl rfl ?_
                refine RW.nil ?_
                -- mq: loopend
                refine EX.lpN (i + m + 1, ⟨fk, fn, bk, bn, (fl : Int)⟩) ⟨by dsimp only; omega, hfl, by dsimp only; rw [← hturn, turnF_in hi2 hs]; rfl⟩ (by dsimp only; omega) (by repeat (first | exact Sub.nil | refine Sub.cons (by rfl) ?_)) (fun w' hw' => hw'.rem Rem.head)
              | some kn =>
                obtain ⟨k, kv⟩ := kn
                refine EX.seq (CW.seq (CW.seq (CW.region ?_)))
                refine RW.move rfl rfl ?_
                refine RW.move rfl rfl ?_
                -- mq: guard slot 64
                refine RW.guardT rfl rfl rfl ?_
                refine RW.move rfl rfl ?_
                refine RW.guardT rfl rfl rfl ?_
                refine RW.eqlI rfl rfl rfl ?_
                refine RW.pickB rfl rfl rfl rfl ?_
                refine RW.nil (EX.seq ?_)
                -- mq: cond
                refine CW.condF rfl ((decide_eq_false h38)) ?_
                refine CW.skip (EX.seq (CW.seq (CW.region ?_)))
                refine RW.move rfl rfl ?_
                refine RW.move rfl rfl ?_
                -- mq: guard slot 71
                refine RW.guardT rfl rfl rfl ?_
                refine RW.move rfl rfl ?_
                refine RW.guardT rfl rfl rfl ?_
                refine RW.eqlI rfl rfl rfl ?_
                refine RW.pickB rfl rfl rfl rfl ?_
                refine RW.nil (EX.seq ?_)
                -- mq: cond
                refine CW.condT rfl ((decide_eq_true h48)) ?_
                refine CW.region ?_
                refine RW.loadBA ag23 rfl rfl (by first | exact Has.head | exact Has.tail Has.head | exact Has.tail (Has.tail Has.head) | exact Has.tail (Has.tail (Has.tail Has.head)) | exact Has.tail (Has.tail (Has.tail (Has.tail Has.head))) | exact Has.tail (Has.tail (Has.tail (Has.tail (Has.tail Has.head)))) | exact Has.tail (Has.tail (Has.tail (Has.tail (Has.tail (Has.tail Has.head)))))) rfl rfl ?_
                refine RW.fieldB fl25x1 rfl rfl ?_
                refine RW.storeA ag23 rfl rfl (by first | exact Upd.head | exact Upd.tail Upd.head | exact Upd.tail (Upd.tail Upd.head) | exact Upd.tail (Upd.tail (Upd.tail Upd.head)) | exact Upd.tail (Upd.tail (Upd.tail (Upd.tail Upd.head))) | exact Upd.tail (Upd.tail (Upd.tail (Upd.tail (Upd.tail Upd.head)))) | exact Upd.tail (Upd.tail (Upd.tail (Upd.tail (Upd.tail (Upd.tail Upd.head)))))) (by first | rfl | exact Enc.len _ _) (by repeat (first | exact Ones.nil | exact Enc.ones _ _ | refine Ones.cons rfl ?_)) (by first | exact Nat.le_of_ble_eq_true rfl | (simp only [Enc.len]; decide)) ?_
                refine RW.nil (EX.bkN (EX.bkN (EX.seq (CW.region ?_))))
                refine RW.move rfl rfl ?_
                refine RW.add rfl rfl rfl (wrap64 (by omega) (by omega)) ?_
                refine RW.assign rfl rfl ?_
                refine RW.nil ?_
                -- mq: loopend
                refine EX.lpN (i + m + 1, ⟨fk, fn, k, kv, (fl : Int)⟩) ⟨by dsimp only; omega, ⟨hfl.1, hfl.2⟩, by dsimp only; rw [← hturn, turnF_in hi2 hs]; simp only [setCol, if_neg h38]⟩ (by dsimp only; omega) (by repeat (first | exact Sub.nil | refine Sub.cons (by rfl) ?_)) (fun w' hw' => hw'.rem Rem.head)
          · skip
            refine CW.region ?_
            refine RW.loadBA ag25 rfl rfl (by first | exact Has.head | exact Has.tail Has.head | exact Has.tail (Has.tail Has.head) | exact Has.tail (Has.tail (Has.tail Has.head)) | exact Has.tail (Has.tail (Has.tail (Has.tail Has.head))) | exact Has.tail (Has.tail (Has.tail (Has.tail (Has.tail Has.head)))) | exact Has.tail (Has.tail (Has.tail (Has.tail (Has.tail (Has.tail Has.head)))))) rfl rfl ?_
            refine RW.move rfl rfl ?_
            -- mq: op 2: ('Op.call', ('Call.mk', ('Callee.value', ('Operand.func', '26')), ('arr', ('Operand.tmp', '20'), ('Operand.tmp', '21')), ('arr', '25', '3'))) -> slot 22 ("attr.go:205")
            refine RW.call rfl ca26 rfl (fun w' _ => simple_c w' fk fn bk bn fl hfl2 (firstV gs i) hv) ?_
            refine RW.storeA ag25 rfl rfl (by first | exact Upd.head | exact Upd.tail Upd.head | exact Upd.tail (Upd.tail Upd.head) | exact Upd.tail (Upd.tail (Upd.tail Upd.head)) | exact Upd.tail (Upd.tail (Upd.tail (Upd.tail Upd.head))) | exact Upd.tail (Upd.tail (Upd.tail (Upd.tail (Upd.tail Upd.head)))) | exact Upd.tail (Upd.tail (Upd.tail (Upd.tail (Upd.tail (Upd.tail Upd.head)))))) (by first | rfl | exact Enc.len _ _) (by repeat (first | exact Ones.nil | exact Enc.ones _ _ | refine Ones.cons rfl ?_)) (by first | exact Nat.le_of_ble_eq_true rfl | (simp only [Enc.len]; decide)) ?_
            refine RW.nil (EX.bkN (EX.bkN (EX.seq (CW.region ?_))))
            refine RW.move rfl rfl ?_
            refine RW.add rfl rfl rfl (wrap64 (by omega) (by omega)) ?_
            refine RW.assign rfl rfl ?_
            refine RW.nil ?_
            -- mq: loopend
            have hs : stepA gs i ⟨fk, fn, bk, bn, (fl : Int)⟩ = (simpleV (firstV gs i) ⟨fk, fn, bk, bn, (fl : Int)⟩, i + 1) := by
              rw [stepA, if_neg h4, if_neg (by omega)]
            refine EX.lpN (i + 1, simpleV (firstV gs i) ⟨fk, fn, bk, bn, (fl : Int)⟩) ⟨by dsimp only; omega, simpleV_fl hfl, by dsimp only; rw [← hturn, turnF_in hi2 hs]⟩ (by dsimp only; omega) (by repeat (first | exact Sub.nil | refine Sub.cons (by rfl) ?_)) (fun w' hw' => hw')
    · skip
      refine CW.exit (EX.seqE (EX.lpE (EX.bkE (EX.seq (CW.seq (CW.region ?_))))))
      refine RW.loadBA ag25 rfl rfl (by first | exact Has.head | exact Has.tail Has.head | exact Has.tail (Has.tail Has.head) | exact Has.tail (Has.tail (Has.tail Has.head)) | exact Has.tail (Has.tail (Has.tail (Has.tail Has.head))) | exact Has.tail (Has.tail (Has.tail (Has.tail (Has.tail Has.head)))) | exact Has.tail (Has.tail (Has.tail (Has.tail (Has.tail (Has.tail Has.head)))))) rfl rfl ?_
      refine RW.storeA ag25 rfl rfl (by first | exact Upd.head | exact Upd.tail Upd.head | exact Upd.tail (Upd.tail Upd.head) | exact Upd.tail (Upd.tail (Upd.tail Upd.head)) | exact Upd.tail (Upd.tail (Upd.tail (Upd.tail Upd.head))) | exact Upd.tail (Upd.tail (Upd.tail (Upd.tail (Upd.tail Upd.head)))) | exact Upd.tail (Upd.tail (Upd.tail (Upd.tail (Upd.tail (Upd.tail Upd.head)))))) (by first | rfl | exact Enc.len _ _) (by repeat (first | exact Ones.nil | exact Enc.ones _ _ | refine Ones.cons rfl ?_)) (by first | exact Nat.le_of_ble_eq_true rfl | (simp only [Enc.len]; decide)) ?_
      refine RW.nil (EX.seq (CW.ret ?_))
      refine EX.fin1' Tryd.results13 (RV.cellA ag25 rfl (by first | exact Has.head | exact Has.tail Has.head | exact Has.tail (Has.tail Has.head) | exact Has.tail (Has.tail (Has.tail Has.head)) | exact Has.tail (Has.tail (Has.tail (Has.tail Has.head))) | exact Has.tail (Has.tail (Has.tail (Has.tail (Has.tail Has.head)))) | exact Has.tail (Has.tail (Has.tail (Has.tail (Has.tail (Has.tail Has.head)))))) rfl rfl) (fun wz hw => ?_)
      -- mq: done
      rw [← hturn, turnF_out (by omega)]
      exact ⟨rfl, hw.ext⟩
    end Go.Proofs.YtojfodeienchfaaDoor.Mq
