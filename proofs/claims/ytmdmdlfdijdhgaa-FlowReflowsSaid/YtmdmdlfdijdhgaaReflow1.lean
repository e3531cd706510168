/- what Reflow computes: rows line by line, and where places are then -/
import Derived.Test.YtmdmdlfdijdhgaaPlace3
import Derived.Test.YtmdmdlfdijdhgaaLines
import Derived.Test.YtmdmdlfdijdhgaaLaw1
namespace Go.Proofs.Ytmdmdlfdijdhgaa.Mq
open Go Go.RowKit Go.Proofs

def segOld (rows : List RowL) (p : Int × Int) : List RowL := (rows.take p.2.toNat).drop p.1.toNat
def segF (rows : List RowL) (cols : Nat) (p : Int × Int) : List RowL := splitF (flowF (segOld rows p)) cols
def outF (rows : List RowL) (cols : Nat) (L : List (Int × Int)) : List RowL := L.flatMap (segF rows cols)
def rowP (p : PosV) : Int := max 0 p.row
def colP (p : PosV) : Int := if p.row < 0 then 0 else p.col
noncomputable def newPos (rows : List RowL) (cols base : Nat) (ln : Int × Int) (p : PosV) : PosV :=
  ⟨(placeR (segF rows cols ln) (offR (segOld rows ln) ⟨rowP p - ln.1, colP p⟩)).row + base, (placeR (segF rows cols ln) (offR (segOld rows ln) ⟨rowP p - ln.1, colP p⟩)).col⟩
noncomputable def updP (rows : List RowL) (cols base : Nat) (ln : Int × Int) (p acc : PosV) : PosV := if ln.1 ≤ rowP p ∧ rowP p < ln.2 then newPos rows cols base ln p else acc
noncomputable def stF (rows : List RowL) (cols : Nat) (p : PosV) : List (Int × Int) → Nat → PosV → PosV
  | [], _, acc => acc
  | ln :: L, base, acc => stF rows cols p L (base + (segF rows cols ln).length) (updP rows cols base ln p acc)
theorem outF_snoc (rows : List RowL) (cols : Nat) (L : List (Int × Int)) (ln : Int × Int) : outF rows cols (L ++ [ln]) = outF rows cols L ++ segF rows cols ln := by simp [outF]
theorem stF_snoc (rows : List RowL) (cols : Nat) (p : PosV) (ln : Int × Int) : ∀ (L : List (Int × Int)) (base : Nat) (acc : PosV),
    stF rows cols p (L ++ [ln]) base acc = updP rows cols (base + (outF rows cols L).length) ln p (stF rows cols p L base acc)
  | [], base, acc => by simp [stF, outF]
  | x :: L, base, acc => by
    rw [List.cons_append, stF, stF, stF_snoc rows cols p ln L]
    congr 1
    simp [outF]
    omega
noncomputable def posF (rows : List RowL) (cols : Nat) (p : PosV) : PosV :=
  if (rows.length : Int) ≤ p.row ∨ rows.length = 0 then ⟨((outF rows cols (linesL rows rows.length)).length : Int), 0⟩ else stF rows cols p (linesL rows rows.length) 0 p
/-- sizes -/
theorem flowF_length (rows : List RowL) : (flowF rows).length ≤ sumLen rows := by
  rw [flowF, trimL, List.length_take, mendL_length]
  have := cellsOf_le rows
  omega
theorem sumLen_seg (rows : List RowL) (p : Int × Int) : sumLen (segOld rows p) ≤ sumLen rows := Nat.le_trans (sumLen_drop_le _ _) (sumLen_take_le _ _)
theorem splitF_le (l : List CellV) (cols : Nat) (hc : 2 ≤ cols) : (splitF l cols).length ≤ l.length + 1 ∧ sumLen (splitF l cols) = (splitF l cols).length * cols := by
  have h1 := splitAux_length (l.length + 1) (plainF l) cols false hc
  rw [plainF_length] at h1
  exact ⟨h1, splitAux_sum _ _ _ _⟩
/-- what a line holds of all -/
theorem sumLen_two (rows : List RowL) (a b c : Nat) (h1 : a ≤ b) (h2 : b ≤ c) : sumLen ((rows.take b).drop a) + sumLen ((rows.take c).drop b) = sumLen ((rows.take c).drop a) := by
  have h : (rows.take c).drop a = (rows.take b).drop a ++ (rows.take c).drop b := by
    have h3 := List.take_append_drop (b - a) ((rows.take c).drop a)
    rw [List.drop_drop, show a + (b - a) = b by omega, ← List.drop_take, List.take_take, Nat.min_eq_left h2] at h3
    rw [h3]
  rw [h, sumLen_app]
end Go.Proofs.Ytmdmdlfdijdhgaa.Mq
