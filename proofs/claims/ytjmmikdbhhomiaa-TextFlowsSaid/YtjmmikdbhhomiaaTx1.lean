/- text: what stands in a part of rows, in plain words; of a whole document -/
import Derived.Test.YtjmmikdbhhomiaaFl5
namespace Go.Proofs.Ytjmmikdbhhomiaa.Mq
open Go Go.RowKit Go.Proofs

def scalarB (r : Int) : Bool := decide (0 ≤ r) && decide (r ≤ 1114111) && !(decide (55296 ≤ r) && decide (r ≤ 57343))
def tailF (r k : Nat) : UInt8 := UInt8.ofNat (128 ||| ((r / 2 ^ (6 * k)) % 256 &&& 63))
/-- a scalar's bytes -/
def putF (r : Int) : List UInt8 :=
  if scalarB r = true then
    if r < 128 then [UInt8.ofNat r.toNat] else
    if r < 2048 then [UInt8.ofNat (192 ||| (r.toNat / 64) % 256), tailF r.toNat 0] else
    if r < 65536 then [UInt8.ofNat (224 ||| (r.toNat / 4096) % 256), tailF r.toNat 1, tailF r.toNat 0] else
    [UInt8.ofNat (240 ||| (r.toNat / 262144) % 256), tailF r.toNat 2, tailF r.toNat 1, tailF r.toNat 0]
  else []
theorem putF_len (r : Int) : (putF r).length ≤ 4 := by
  unfold putF
  repeat' split
  all_goals simp
/-- a cell's text -/
def cellT (c : CellV) : List UInt8 := if c.half = 2 then [] else if c.r = 0 then [32] else putF c.r ++ c.more
def cellsAt (rows : List RowL) (k : Nat) : List CellV := ((rows[k]?).map (·.1)).getD []
def inA (fr : PosV) (k : Nat) : Int := if (k : Int) = fr.row then max 0 fr.col else 0
def inB (to : PosV) (k len : Nat) : Int := if (k : Int) = to.row then min (len : Int) to.col else (len : Int)
def lessP (p q : PosV) : Bool := decide (p.row < q.row ∨ p.row = q.row ∧ p.col < q.col)
def wrC (c : CellV) : Bool := decide (c.r ≠ 0) && decide (c.half ≠ 3)
/-- behind which cell of a row, up to k, nothing more was written -/
def lastX (L : List CellV) (a : Nat) : Nat → Option Nat
  | 0 => none
  | k + 1 => if k < a then none else if ((L[k]?).map wrC).getD false = true then some (k + 1) else lastX L a k
def endR (rows : List RowL) (fr to : PosV) (l0 : Nat) : Nat → PosV
  | 0 => ⟨0, 0⟩
  | k + 1 => if k < l0 then ⟨0, 0⟩ else match lastX (cellsAt rows k) (inA fr k).toNat (inB to k (cellsAt rows k).length).toNat with
    | some x => ⟨(k : Int), (x : Int)⟩
    | none => endR rows fr to l0 k
def pieceT (row : Nat) (en : PosV) (x : Nat) (c : CellV) : List UInt8 := if c.half ≠ 3 ∧ lessP ⟨(row : Int), (x : Int)⟩ en = true then cellT c else []
def rowT (L : List CellV) (row : Nat) (en : PosV) (a : Nat) : Nat → List UInt8
  | 0 => []
  | k + 1 => rowT L row en a k ++ (if k < a then [] else match L[k]? with
    | some c => pieceT row en k c
    | none => [])
def lineT (rows : List RowL) (fr to en : PosV) (l0 : Nat) : Nat → List UInt8
  | 0 => []
  | k + 1 => lineT rows fr to en l0 k ++ (if k < l0 then [] else rowT (cellsAt rows k) k en (inA fr k).toNat (inB to k (cellsAt rows k).length).toNat)
def partT (rows : List RowL) (fr to : PosV) (ln : Int × Int) : List UInt8 :=
  if max ln.1 fr.row < ln.2 ∧ max ln.1 fr.row ≤ to.row then
    lineT rows fr to (endR rows fr to (max ln.1 fr.row).toNat (if to.row < rows.length ∧ to.row + 1 < ln.2 then to.row + 1 else ln.2).toNat) (max ln.1 fr.row).toNat (if to.row < rows.length ∧ to.row + 1 < ln.2 then to.row + 1 else ln.2).toNat ++
      (if (if to.row < rows.length ∧ to.row + 1 < ln.2 then to.row + 1 else ln.2) - 1 < to.row then [10] else [])
  else []
def fromF (fr : PosV) : PosV := if fr.row < 0 then ⟨0, 0⟩ else fr
/-- what stands in a part -/
def ofF (rows : List RowL) (fr to : PosV) : List UInt8 := if lessP (fromF fr) to = true then (linesL rows rows.length).flatMap (partT rows (fromF fr) to) else []

theorem rowT_lo (L : List CellV) (row : Nat) (en : PosV) (a : Nat) : ∀ k, k ≤ a → rowT L row en a k = []
  | 0, _ => rfl
  | k + 1, h => by rw [rowT, rowT_lo L row en a k (by omega), if_pos (by omega)]; rfl
theorem lineT_lo (rows : List RowL) (fr to en : PosV) (l0 : Nat) : ∀ k, k ≤ l0 → lineT rows fr to en l0 k = []
  | 0, _ => rfl
  | k + 1, h => by rw [lineT, lineT_lo rows fr to en l0 k (by omega), if_pos (by omega)]; rfl
theorem endR_lo (rows : List RowL) (fr to : PosV) (l0 : Nat) : ∀ k, k ≤ l0 → endR rows fr to l0 k = ⟨0, 0⟩
  | 0, _ => rfl
  | k + 1, h => by rw [endR, if_pos (by omega)]
/- a whole document -/
def npF (L : List CellV) : List CellV := L.filter (fun c => decide (c.half ≠ 3))
theorem rowT_all {L : List CellV} {row : Nat} {en : PosV} : ∀ k, k ≤ L.length → (∀ x, x < k → lessP ⟨(row : Int), (x : Int)⟩ en = true) → rowT L row en 0 k = (npF (L.take k)).flatMap cellT
  | 0, _, _ => rfl
  | k + 1, hk, h => by
    obtain ⟨c, hc⟩ : ∃ c, L[k]? = some c := ⟨L[k]'(by omega), List.getElem?_eq_getElem _⟩
    rw [rowT, rowT_all k (by omega) (fun x hx => h x (by omega)), if_neg (by omega), hc, List.take_add_one, hc]
    unfold npF pieceT
    rw [Option.toList_some, List.filter_append, List.flatMap_append]
    congr 1
    dsimp only
    by_cases h3 : c.half = 3
    · rw [if_neg (fun e => e.1 h3), List.filter_cons_of_neg (by simp [h3])]; rfl
    · rw [if_pos ⟨h3, h k (by omega)⟩, List.filter_cons_of_pos (by simp [h3])]; simp
theorem rowT_cut {L : List CellV} {row : Nat} {en : PosV} {m : Nat} : ∀ k, m ≤ k → (∀ x, m ≤ x → lessP ⟨(row : Int), (x : Int)⟩ en = false) → rowT L row en 0 k = rowT L row en 0 m
  | 0, hm, _ => by rw [show m = 0 by omega]
  | k + 1, hm, h => by
    by_cases he : m = k + 1
    · rw [he]
    · rw [rowT, rowT_cut k (by omega) h, if_neg (by omega)]
      cases L[k]? with
      | none => simp
      | some c =>
        show _ ++ pieceT row en k c = _
        unfold pieceT
        rw [if_neg (fun e => by rw [h k (by omega)] at e; cases e.2), List.append_nil]
theorem lastX_none {L : List CellV} : ∀ k, lastX L 0 k = none → ∀ c ∈ npF (L.take k), c.r = 0
  | 0, _, c, hc => by simp [npF] at hc
  | k + 1, h, c, hc => by
    rw [lastX, if_neg (by omega)] at h
    split at h
    · cases h
    · rename_i hw
      rw [List.take_add_one] at hc
      unfold npF at hc
      rw [List.filter_append] at hc
      rcases List.mem_append.1 hc with hc | hc
      · exact lastX_none k h c hc
      · cases hl : L[k]? with
        | none => rw [hl] at hc; simp at hc
        | some d =>
          rw [hl] at hc hw
          obtain ⟨h1, h2⟩ := List.mem_filter.1 hc
          have hcd : c = d := by simpa using h1
          rw [hcd] at h2 ⊢
          have hw' : ¬ wrC d = true := hw
          unfold wrC at hw'
          rw [Bool.and_eq_true, decide_eq_true_eq, decide_eq_true_eq] at hw'
          have h3 : d.half ≠ 3 := of_decide_eq_true h2
          exact Decidable.byContradiction fun hr => hw' ⟨hr, h3⟩
theorem lastX_some {L : List CellV} {x : Nat} : ∀ k, lastX L 0 k = some x → 1 ≤ x ∧ x ≤ k ∧ (∃ c, L[x - 1]? = some c ∧ wrC c = true) ∧ ∀ c ∈ npF ((L.take k).drop x), c.r = 0
  | 0, h => by cases h
  | k + 1, h => by
    rw [lastX, if_neg (by omega)] at h
    split at h
    · rename_i hw
      cases h
      cases hl : L[k]? with
      | none => rw [hl] at hw; cases hw
      | some d =>
        rw [hl] at hw
        refine ⟨by omega, Nat.le_refl _, ⟨d, by rw [Nat.add_sub_cancel]; exact hl, hw⟩, fun c hc => ?_⟩
        rw [List.drop_eq_nil_of_le (by rw [List.length_take]; omega)] at hc
        simp [npF] at hc
    · rename_i hw
      obtain ⟨h1, h2, h3, h4⟩ := lastX_some k h
      refine ⟨h1, by omega, h3, fun c hc => ?_⟩
      have e : (L.take (k + 1)).drop x = (L.take k).drop x ++ (L[k]?).toList.drop (x - (L.take k).length) := by rw [List.take_add_one, List.drop_append]
      rw [e] at hc
      unfold npF at hc
      rw [List.filter_append] at hc
      rcases List.mem_append.1 hc with hc | hc
      · exact h4 c hc
      · obtain ⟨g1, g2⟩ := List.mem_filter.1 hc
        have g1' := List.mem_of_mem_drop g1
        cases hl : L[k]? with
        | none => rw [hl] at g1'; simp at g1'
        | some d =>
          rw [hl] at g1' hw
          have hcd : c = d := by simpa using g1'
          rw [hcd] at g2 ⊢
          have hw' : ¬ wrC d = true := hw
          unfold wrC at hw'
          rw [Bool.and_eq_true, decide_eq_true_eq, decide_eq_true_eq] at hw'
          exact Decidable.byContradiction fun hr => hw' ⟨hr, of_decide_eq_true g2⟩
theorem trimL_zero {A l : List CellV} (h : ∀ c ∈ l, c.r = 0) : trimL (A ++ l) = trimL A := by
  unfold trimL
  rw [drop_zero_r h, List.take_append_of_le_length (usedL_le A)]
theorem trimL_last {A : List CellV} {c : CellV} (h : c.r ≠ 0) : trimL (A ++ [c]) = A ++ [c] := by
  unfold trimL
  rw [usedL_snoc, if_neg h]
  exact List.take_of_length_le (by simp)
/-- the rows of a line, up to k, and where its end is -/
theorem line_whole (rows : List RowL) (fr to : PosV) (l0 : Nat) (hfr : fr = ⟨0, 0⟩) : ∀ k, l0 ≤ k → k ≤ rows.length → (k : Int) ≤ to.row →
    (∀ en : PosV, (k : Int) ≤ en.row → lineT rows fr to en l0 k = (cellsOf ((rows.take k).drop l0)).flatMap cellT) ∧
    (endR rows fr to l0 k).row < max 1 (k : Int) ∧ ((endR rows fr to l0 k).row = 0 → l0 ≠ 0 → (endR rows fr to l0 k).col = 0) ∧
    lineT rows fr to (endR rows fr to l0 k) l0 k = (trimL (cellsOf ((rows.take k).drop l0))).flatMap cellT := by
  intro k
  induction k with
  | zero =>
    intro hl hk ht
    refine ⟨fun en _ => ?_, by show (0 : Int) < max 1 ((0 : Nat) : Int); omega, fun _ _ => rfl, ?_⟩
    · rw [List.take_zero, List.drop_nil]; rfl
    · rw [List.take_zero, List.drop_nil]; rfl
  | succ k ih =>
    intro hl hk ht
    by_cases he : l0 = k + 1
    · have h1 := lineT_lo rows fr to
      refine ⟨fun en _ => ?_, ?_, ?_, ?_⟩
      · rw [h1 en l0 (k + 1) (by omega), List.drop_eq_nil_of_le (by rw [List.length_take]; omega)]; rfl
      · rw [endR_lo rows fr to l0 (k + 1) (by omega)]; show (0 : Int) < _; omega
      · rw [endR_lo rows fr to l0 (k + 1) (by omega)]; exact fun _ _ => rfl
      · rw [h1 _ l0 (k + 1) (by omega), List.drop_eq_nil_of_le (by rw [List.length_take]; omega)]; rfl
    · have hlk : l0 ≤ k := by omega
      obtain ⟨a1, a2, a3, a4⟩ := ih hlk (by omega) (by omega)
      obtain ⟨row, hrow⟩ : ∃ row, rows[k]? = some row := ⟨rows[k]'(by omega), List.getElem?_eq_getElem _⟩
      have hca : cellsAt rows k = row.1 := by unfold cellsAt; rw [hrow]; rfl
      have hA : (inA fr k).toNat = 0 := by rw [hfr]; unfold inA; split <;> rfl
      have hB : (inB to k row.1.length).toNat = row.1.length := by unfold inB; rw [if_neg (by omega)]; omega
      have hseg : (rows.take (k + 1)).drop l0 = (rows.take k).drop l0 ++ [row] := by
        rw [List.take_add_one, hrow, Option.toList_some, List.drop_append_of_le_length (by rw [List.length_take]; omega)]
      have hcs : cellsOf ((rows.take (k + 1)).drop l0) = cellsOf ((rows.take k).drop l0) ++ npF row.1 := by rw [hseg, cellsOf_snoc]; rfl
      have hlt : ∀ en, lineT rows fr to en l0 (k + 1) = lineT rows fr to en l0 k ++ rowT row.1 k en 0 row.1.length := fun en => by
        rw [lineT, if_neg (by omega), hca, hA, hB]
      have her : endR rows fr to l0 (k + 1) = match lastX row.1 0 row.1.length with | some x => ⟨(k : Int), (x : Int)⟩ | none => endR rows fr to l0 k := by
        rw [endR, if_neg (by omega), hca, hA, hB]
      have hall : row.1.take row.1.length = row.1 := List.take_length
      refine ⟨fun en hen => ?_, ?_⟩
      · rw [hlt, a1 en (by omega), hcs, List.flatMap_append, rowT_all _ (Nat.le_refl _) (fun x _ => by
          unfold lessP
          exact decide_eq_true (.inl (by dsimp only; omega))), hall]
      · cases hlx : lastX row.1 0 row.1.length with
        | some x =>
          rw [hlx] at her
          dsimp only at her
          obtain ⟨x1, x2, ⟨c, hc, hw⟩, x4⟩ := lastX_some _ hlx
          rw [hall] at x4
          rw [her]
          refine ⟨by dsimp only; omega, fun h0 hl0 => ?_, ?_⟩
          · dsimp only at h0 ⊢
            omega
          · rw [hlt, a1 _ (Int.le_refl _), hcs]
            have hw2 : c.r ≠ 0 ∧ c.half ≠ 3 := by
              unfold wrC at hw
              rw [Bool.and_eq_true, decide_eq_true_eq, decide_eq_true_eq] at hw
              exact hw
            have hcutL : npF row.1 = npF (row.1.take x) ++ npF (row.1.drop x) := by
              unfold npF
              rw [← List.filter_append, List.take_append_drop]
            have htk : npF (row.1.take x) = npF (row.1.take (x - 1)) ++ [c] := by
              have : row.1.take x = row.1.take (x - 1) ++ [c] := by
                conv => lhs; rw [show x = x - 1 + 1 by omega, List.take_add_one, hc]
                rfl
              rw [this]
              unfold npF
              rw [List.filter_append, List.filter_cons_of_pos (by simp [hw2.2])]; rfl
            have hrow2 : rowT row.1 k ⟨(k : Int), (x : Int)⟩ 0 row.1.length = (npF (row.1.take x)).flatMap cellT := by
              rw [rowT_cut (m := x) _ x2 (fun y hy => decide_eq_false (by dsimp only; omega))]
              exact rowT_all _ x2 (fun y hy => decide_eq_true (.inr (by dsimp only; omega)))
            rw [hrow2, hcutL, ← List.append_assoc, trimL_zero x4, htk, ← List.append_assoc, trimL_last hw2.1, List.flatMap_append, List.flatMap_append, List.flatMap_append, List.append_assoc]
        | none =>
          rw [hlx] at her
          dsimp only at her
          have hz := lastX_none _ hlx
          rw [hall] at hz
          rw [her]
          refine ⟨by omega, a3, ?_⟩
          rw [hlt, a4, hcs, trimL_zero hz]
          have hnil : rowT row.1 k (endR rows fr to l0 k) 0 row.1.length = [] := by
            refine rowT_cut (m := 0) _ (Nat.zero_le _) (fun y _ => ?_)
            refine decide_eq_false ?_
            dsimp only
            intro hh
            by_cases hk0 : k = 0
            · subst hk0
              have hl0 : l0 = 0 := by omega
              subst hl0
              have e0 : endR rows fr to 0 0 = ⟨0, 0⟩ := rfl
              rw [e0] at hh
              dsimp only at hh
              omega
            · omega
          rw [hnil, List.append_nil]
theorem lines_in {rows : List RowL} {n : Nat} : ∀ (L : List (Int × Int)) (a : Nat), chainE rows n a L → ∀ ln ∈ L, ∃ s e : Nat, ln = ((s : Int), (e : Int)) ∧ s < e ∧ e ≤ n
  | [], _, _, ln, h => by cases h
  | p :: L, a, h, ln, hln => by
    obtain ⟨e, h1, h2, h3, _, _, h6⟩ := chainE_step h
    rcases List.mem_cons.1 hln with rfl | hln
    · exact ⟨a, e, h1, h2, h3⟩
    · exact lines_in L e h6 ln hln
/-- a line's text -/
def lnT (rows : List RowL) (ln : Int × Int) : List UInt8 := (trimL (cellsOf (segOld rows ln))).flatMap cellT ++ [10]
theorem part_whole (rows : List RowL) {s e : Nat} (hse : s < e) (hen : e ≤ rows.length) : partT rows ⟨0, 0⟩ ⟨(rows.length : Int), 0⟩ ((s : Int), (e : Int)) = lnT rows ((s : Int), (e : Int)) := by
  have hm : max (s : Int) 0 = (s : Int) := by omega
  obtain ⟨_, _, _, h4⟩ := line_whole rows ⟨0, 0⟩ ⟨(rows.length : Int), 0⟩ s rfl e (by omega) hen (by dsimp only; omega)
  unfold partT lnT segOld
  dsimp only
  rw [hm, if_pos ⟨by omega, by omega⟩, if_neg (fun h => by omega), if_pos (by omega)]
  rw [show ((s : Int)).toNat = s from rfl, show ((e : Int)).toNat = e from rfl, h4]
/-- the whole text: line by line -/
theorem of_whole (rows : List RowL) : ofF rows ⟨0, 0⟩ ⟨(rows.length : Int), 0⟩ = (linesL rows rows.length).flatMap (lnT rows) := by
  have hf : fromF ⟨0, 0⟩ = ⟨0, 0⟩ := rfl
  have hch := linesL_chain rows rows.length
  unfold ofF
  rw [hf]
  by_cases h0 : rows.length = 0
  · have hl : linesL rows rows.length = [] := by rw [h0]; rfl
    rw [hl]
    split <;> rfl
  · have hless : lessP ⟨0, 0⟩ ⟨(rows.length : Int), 0⟩ = true := decide_eq_true (.inl (by dsimp only; omega))
    rw [if_pos hless]
    have hmap : (linesL rows rows.length).map (partT rows ⟨0, 0⟩ ⟨(rows.length : Int), 0⟩) = (linesL rows rows.length).map (lnT rows) := List.map_congr_left fun ln hln => by
      obtain ⟨s, e, rfl, h1, h2⟩ := lines_in _ 0 hch ln hln
      exact part_whole rows h1 h2
    rw [List.flatMap_def, List.flatMap_def, hmap]
end Go.Proofs.Ytjmmikdbhhomiaa.Mq
