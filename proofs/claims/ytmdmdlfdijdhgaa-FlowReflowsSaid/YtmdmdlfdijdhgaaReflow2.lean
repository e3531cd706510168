/- walk of flow.Reflow where there may be so many columns -/
import Derived.Test.YtmdmdlfdijdhgaaReflow1
namespace Go.Proofs.Ytmdmdlfdijdhgaa.Mq
open Go Go.RowKit Go.Proofs

theorem RdRows.strong {w : World} {F : Nat → Prop} {A : Option Addr} {n c : Nat} {rows : List RowL} (h : RdRows w F A n c rows) : RdRows w (fun k => F k ∧ k < w.heap.size) A n c rows := by
  obtain ⟨rs, h1, h2, h3⟩ := h.prf
  exact ⟨rs, h1.strong (by decide), h2, fun k r row hk hr => (h3 k r row hk hr).strong (by decide)⟩
theorem offR_bd (rows : List RowL) (p : PosV) : 0 ≤ offR rows p ∧ offR rows p ≤ (sumLen rows : Int) := by
  unfold offR
  split
  · omega
  · split
    · have := cnt_le rows rows.length; omega
    · have h1 := cnt_le rows (p.row.toNat + 1)
      have h2 := cnt_mono (rows := rows) (j := p.row.toNat) (k := p.row.toNat + 1) (by omega)
      omega
theorem placeR_bd (rows : List RowL) (off : Int) (ho : off ≤ 4000000) : (0 ≤ (placeR rows off).row ∧ (placeR rows off).row ≤ (rows.length : Int)) ∧ -(sumLen rows : Int) ≤ (placeR rows off).col ∧ (placeR rows off).col ≤ 4000000 := by
  unfold placeR
  split
  · simp
  · split
    · have h1 := cnt_le rows rows.length
      have h2 := cnt_le rows (rows.length - 1)
      dsimp only
      omega
    · have h1 := cnt_le rows (findK rows (max 0 off))
      have h2 := (findK_is rows (max 0 off)).1
      dsimp only
      omega
theorem outF_chain {rows : List RowL} {cols : Nat} (hc : 2 ≤ cols) : ∀ (M : List (Int × Int)) (a b : Nat), chainL rows a M b → (outF rows cols M).length + sumLen ((rows.take a).drop 0) ≤ sumLen ((rows.take b).drop 0) + (b - a)
  | [], a, b, h => by
    have h : a = b := h
    subst h
    simp [outF]
  | p :: M, a, b, h => by
    obtain ⟨e, rfl, h2, _, _, h5⟩ := h
    have ih := outF_chain hc M e b h5
    have hle := chain_le M e b h5
    have h6 := sumLen_two rows 0 a e (by omega) (by omega)
    have h7 := (splitF_le (flowF ((rows.take e).drop a)) cols hc).1
    have h8 := flowF_length ((rows.take e).drop a)
    have h9 : segF rows cols ((a : Int), (e : Int)) = splitF (flowF ((rows.take e).drop a)) cols := by simp [segF, segOld]
    have h10 : outF rows cols (((a : Int), (e : Int)) :: M) = segF rows cols ((a : Int), (e : Int)) ++ outF rows cols M := by simp [outF]
    rw [h10, List.length_append, h9]
    omega
theorem outF_total {rows : List RowL} {cols : Nat} (hc : 2 ≤ cols) : (outF rows cols (linesL rows rows.length)).length ≤ sumLen rows + rows.length := by
  rcases linesL_chain rows rows.length with ⟨h1, h2⟩ | ⟨M, s, h1, h2, h3, h4⟩
  · rw [h1]; simp [outF]
  · rw [h1, outF_snoc, List.length_append]
    have h5 := outF_chain hc M 0 s h4
    have h7 := (splitF_le (flowF ((rows.take rows.length).drop s)) cols hc).1
    have h8 := flowF_length ((rows.take rows.length).drop s)
    have h9 : segF rows cols ((s : Int), (rows.length : Int)) = splitF (flowF ((rows.take rows.length).drop s)) cols := by simp [segF, segOld]
    have h6 := sumLen_two rows 0 s rows.length (by omega) (by omega)
    rw [h9]
    rw [List.take_length] at h6 h7 h8
    simp only [List.take_length, List.drop_zero, List.take_zero] at h5 h6 h7 h8 ⊢
    have h10 : sumLen ([] : List RowL) = 0 := rfl
    omega
theorem outF_part {rows : List RowL} {cols : Nat} {L1 L2 : List (Int × Int)} (h : linesL rows rows.length = L1 ++ L2) (hc : 2 ≤ cols) : (outF rows cols L1).length ≤ sumLen rows + rows.length := by
  have h1 := outF_total (rows := rows) hc
  rw [h] at h1
  have h2 : outF rows cols (L1 ++ L2) = outF rows cols L1 ++ outF rows cols L2 := by simp [outF]
  rw [h2, List.length_append] at h1
  omega
end Go.Proofs.Ytmdmdlfdijdhgaa.Mq
