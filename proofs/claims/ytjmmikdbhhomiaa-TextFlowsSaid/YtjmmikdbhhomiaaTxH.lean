/- text: sizes -/
import Derived.Test.YtjmmikdbhhomiaaTxG
namespace Go.Proofs.Ytjmmikdbhhomiaa.Mq
open Go Go.RowKit Go.Proofs

def M100 (l : List CellV) : Prop := ∀ x ∈ l, x.more.length ≤ 100
theorem m_mend (l : List CellV) (h : M100 l) : M100 (mendL l) := by
  fun_induction mendL l with
  | case1 => exact h
  | case2 c =>
    intro x hx
    rw [List.mem_singleton] at hx
    subst hx
    split
    · exact h c (by simp)
    · simp [emptyC]
  | case3 c d l _ ih =>
    intro x hx
    rcases List.mem_cons.1 hx with rfl | hx
    · exact h _ (by simp)
    · exact ih (fun y hy => h y (List.mem_cons_of_mem _ hy)) x hx
  | case4 c d l _ _ ih =>
    intro x hx
    rcases List.mem_cons.1 hx with rfl | hx
    · exact h _ (by simp)
    · rcases List.mem_cons.1 hx with rfl | hx
      · exact h _ (by simp)
      · exact ih (fun y hy => h y (List.mem_cons_of_mem _ (List.mem_cons_of_mem _ hy))) x hx
  | case5 c d l _ _ ih =>
    intro x hx
    rcases List.mem_cons.1 hx with rfl | hx
    · simp [emptyC]
    · exact ih (fun y hy => h y (List.mem_cons_of_mem _ hy)) x hx
theorem m_unpad {l : List CellV} (h : M100 l) : M100 (l.map unpad) := fun x hx => by
  obtain ⟨c, hc, rfl⟩ := List.mem_map.1 hx
  unfold unpad
  split
  · simp [emptyC]
  · exact h c hc
theorem m_take {l : List CellV} (h : M100 l) (k : Nat) : M100 (l.take k) := fun x hx => h x (List.mem_of_mem_take hx)
theorem m_drop {l : List CellV} (h : M100 l) (k : Nat) : M100 (l.drop k) := fun x hx => h x (List.mem_of_mem_drop hx)
theorem m_app {l r : List CellV} (h : M100 l) (k : M100 r) : M100 (l ++ r) := fun x hx => (List.mem_append.1 hx).elim (h x) (k x)
theorem m_zeros (k : Nat) : M100 (List.replicate k zeroC) := fun x hx => by
  rw [(List.mem_replicate.1 hx).2]; simp [zeroC, emptyC]
theorem m_rowOf {left : List CellV} {cols : Nat} (h : M100 left) : M100 (rowOf left cols) := by
  unfold rowOf
  split
  · intro x hx
    rcases List.mem_or_eq_of_mem_set hx with hx | rfl
    · exact m_app (m_take h _) (m_zeros _) x hx
    · simp [padC, zeroC, emptyC]
  · exact m_app (m_take h _) (m_zeros _)
theorem m_splitAux : ∀ (f : Nat) (left : List CellV) (cols : Nat) (cont : Bool), M100 left → ∀ r ∈ splitAux f left cols cont, M100 r.1
  | 0, _, _, _, _, r, hr => by cases hr
  | f + 1, left, cols, cont, h, r, hr => by
    rw [splitAux] at hr
    rcases List.mem_cons.1 hr with rfl | hr
    · exact m_rowOf h
    · split at hr
      · cases hr
      · exact m_splitAux f _ cols true (m_drop h _) r hr
theorem m_cellsOf {rows : List RowL} (h : ∀ r ∈ rows, M100 r.1) : M100 (cellsOf rows) := fun x hx => by
  obtain ⟨r, hr, hx2⟩ := List.mem_flatMap.1 (List.mem_filter.1 hx).1
  exact h r hr x hx2
theorem m_seg {rows : List RowL} (h : ∀ r ∈ rows, M100 r.1) (ln : Int × Int) : ∀ r ∈ segOld rows ln, M100 r.1 := fun r hr => h r (List.mem_of_mem_take (List.mem_of_mem_drop hr))
theorem m_outF {rows : List RowL} (h : ∀ r ∈ rows, M100 r.1) (cols : Nat) (L : List (Int × Int)) : ∀ r ∈ outF rows cols L, M100 r.1 := fun r hr => by
  obtain ⟨ln, _, hr2⟩ := List.mem_flatMap.1 hr
  exact m_splitAux _ _ cols false (m_mend _ (m_unpad (m_take (m_mend _ (m_cellsOf (m_seg h ln))) _))) r hr2
theorem cellT_len {c : CellV} (h : c.more.length ≤ 100) : (cellT c).length ≤ 104 := by
  have := putF_len c.r
  unfold cellT
  split
  · simp
  · split
    · simp
    · rw [List.length_append]; omega
theorem flat_len {α : Type} {f : α → List UInt8} {B : Nat} : ∀ l : List α, (∀ x ∈ l, (f x).length ≤ B) → (l.flatMap f).length ≤ l.length * B
  | [], _ => Nat.zero_le _
  | a :: l, h => by
    have h1 := h a (by simp)
    have h2 := flat_len l (fun x hx => h x (List.mem_cons_of_mem _ hx))
    rw [List.flatMap_cons, List.length_append, List.length_cons, Nat.succ_mul]
    omega
theorem of_len {rows : List RowL} (hs : rows.length + sumLen rows ≤ 600) (h : ∀ r ∈ rows, M100 r.1) : (ofF rows ⟨0, 0⟩ ⟨(rows.length : Int), 0⟩).length ≤ 140737488355328 := by
  rw [of_whole]
  have hL := linesL_length rows rows.length
  refine Nat.le_trans (flat_len (B := 62401) _ (fun ln _ => ?_)) ?_
  · unfold lnT
    rw [List.length_append]
    have h1 := flat_len (f := cellT) (B := 104) (trimL (cellsOf (segOld rows ln))) (fun c hc => cellT_len (m_take (m_cellsOf (m_seg h ln)) _ c hc))
    have h2 : (trimL (cellsOf (segOld rows ln))).length ≤ sumLen rows := by
      have a1 := cellsOf_le (segOld rows ln)
      have a2 := sumLen_seg rows ln
      have a3 : (trimL (cellsOf (segOld rows ln))).length ≤ (cellsOf (segOld rows ln)).length := by unfold trimL; rw [List.length_take]; omega
      omega
    show _ + 1 ≤ 62401
    omega
  · calc (linesL rows rows.length).length * 62401 ≤ 600 * 62401 := Nat.mul_le_mul_right _ (by omega)
      _ ≤ 140737488355328 := by decide
theorem lawL_snoc (seg : List RowL) (r : RowL) : lawL (seg ++ [r]) = lawL seg ++ cutPad r.1 := by simp [lawL]
theorem out_law {rows : List RowL} {cols : Nat} (hc : 2 ≤ cols) (hs : rows.length + sumLen rows ≤ 600) (h : ∀ r ∈ rows, M100 r.1) (hr : RightDoc rows) :
    (outF rows cols (linesL rows rows.length)).length ≤ 600 ∧ (∀ r ∈ outF rows cols (linesL rows rows.length), ∀ x ∈ r.1, x.more.length ≤ 1000000) ∧
    ofF (outF rows cols (linesL rows rows.length)) ⟨0, 0⟩ ⟨((outF rows cols (linesL rows rows.length)).length : Int), 0⟩ = ofF rows ⟨0, 0⟩ ⟨(rows.length : Int), 0⟩ := by
  have h1 := outF_total (rows := rows) (cols := cols) hc
  exact ⟨by omega, fun r hr' x hx => Nat.le_trans (m_outF h cols _ r hr' x hx) (by decide), text_flows hc hr⟩
end Go.Proofs.Ytjmmikdbhhomiaa.Mq
