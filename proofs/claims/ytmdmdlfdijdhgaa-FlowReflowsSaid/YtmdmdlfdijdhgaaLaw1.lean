/- plain laws: the flow of what is split -/
import Derived.Test.YtmdmdlfdijdhgaaFlow2
namespace Go.Proofs.Ytmdmdlfdijdhgaa.Mq
open Go Go.RowKit Go.Proofs

def NoPad (l : List CellV) : Prop := ∀ c ∈ l, c.half ≠ 3
theorem mendL_cons0 {c : CellV} {l : List CellV} (h : c.half = 0) : mendL (c :: l) = c :: mendL l := by
  cases l <;> simp [mendL, h]
theorem mendL_zeros (k : Nat) : mendL (List.replicate k zeroC) = List.replicate k zeroC := by
  induction k with
  | zero => rfl
  | succ k ih => rw [List.replicate_succ, mendL_cons0 rfl, ih]
theorem mendL_mend_zeros (p : List CellV) (hp : NoPad p) (k : Nat) : mendL (mendL p ++ List.replicate k zeroC) = mendL p ++ List.replicate k zeroC := by
  induction p using mendL.induct with
  | case1 => simp [mendL, mendL_zeros]
  | case2 c =>
    have h3 : c.half ≠ 3 := hp c (by simp)
    by_cases h0 : c.half = 0
    · simp only [mendL, h0, true_or, if_true, List.singleton_append]
      rw [mendL_cons0 h0, mendL_zeros]
    · simp only [mendL, h0, h3, or_self, if_false, List.singleton_append]
      rw [mendL_cons0 rfl, mendL_zeros]
  | case3 c d l h ih =>
    simp only [mendL, h, if_true, List.cons_append]
    rw [mendL_cons0 h, ih (fun x hx => hp x (List.mem_cons_of_mem _ hx))]
  | case4 c d l h hpr ih =>
    simp only [mendL, h, hpr, if_true, if_false, List.cons_append]
    rw [ih (fun x hx => hp x (List.mem_cons_of_mem _ (List.mem_cons_of_mem _ hx)))]
  | case5 c d l h hpr ih =>
    rw [mendL, if_neg h, if_neg hpr, List.cons_append]
    rw [mendL_cons0 (c := emptyC c.at_) rfl, ih (fun x hx => hp x (List.mem_cons_of_mem _ hx))]
theorem noPad_mend (p : List CellV) (hp : NoPad p) : NoPad (mendL p) := by
  induction p using mendL.induct with
  | case1 => simpa [mendL] using hp
  | case2 c =>
    have h3 : c.half ≠ 3 := hp c (by simp)
    intro x hx
    simp only [mendL, List.mem_singleton] at hx
    subst hx
    split
    · exact h3
    · simp [emptyC]
  | case3 c d l h ih =>
    intro x hx
    simp only [mendL, h, if_true, List.mem_cons] at hx
    rcases hx with rfl | hx
    · rw [h]; decide
    · exact ih (fun y hy => hp y (List.mem_cons_of_mem _ hy)) x hx
  | case4 c d l h hpr ih =>
    intro x hx
    simp only [mendL, h, hpr, if_true, if_false, List.mem_cons] at hx
    rcases hx with rfl | rfl | hx
    · exact hp _ (by simp)
    · exact hp _ (by simp)
    · exact ih (fun y hy => hp y (List.mem_cons_of_mem _ (List.mem_cons_of_mem _ hy))) x hx
  | case5 c d l h hpr ih =>
    intro x hx
    rw [mendL, if_neg h, if_neg hpr, List.mem_cons] at hx
    rcases hx with hx | hx
    · rw [hx]; simp [emptyC]
    · exact ih (fun y hy => hp y (List.mem_cons_of_mem _ hy)) x hx
theorem usedL_zeros (m : List CellV) (k : Nat) : usedL (m ++ List.replicate k zeroC) = usedL m := by
  induction k with
  | zero => simp
  | succ k ih => rw [List.replicate_succ', ← List.append_assoc, usedL_snoc, if_pos (show zeroC.r = 0 from rfl), ih]
theorem trimL_zeros (m : List CellV) (k : Nat) : trimL (m ++ List.replicate k zeroC) = trimL m := by
  unfold trimL
  rw [usedL_zeros, List.take_append_of_le_length (usedL_le m)]
theorem map_unpad_noPad (p : List CellV) (hp : NoPad p) : p.map unpad = p := by
  induction p with
  | nil => rfl
  | cons c l ih =>
    have h3 : c.half ≠ 3 := hp c (by simp)
    rw [List.map_cons, ih (fun x hx => hp x (by simp [hx])), unpad, if_neg h3]
theorem noPad_unpad (p : List CellV) : NoPad (p.map unpad) := by
  intro c hc
  obtain ⟨d, _, rfl⟩ := List.mem_map.1 hc
  unfold unpad
  split
  · simp [emptyC]
  · assumption
theorem noPad_filter (p : List CellV) (hp : NoPad p) : p.filter (fun c => decide (c.half ≠ 3)) = p := by
  rw [List.filter_eq_self]
  intro c hc
  simpa using hp c hc
theorem rowOf_length (left : List CellV) (cols : Nat) : (rowOf left cols).length = cols := by
  have h := takeF_le left cols
  unfold rowOf
  split <;> simp [List.length_take] <;> omega
theorem splitAux_length : ∀ (f : Nat) (left : List CellV) (cols : Nat) (cont : Bool), 2 ≤ cols → (splitAux f left cols cont).length ≤ left.length + 1
  | 0, _, _, _, _ => by simp [splitAux]
  | f + 1, left, cols, cont, hc => by
    rw [splitAux]
    split
    · simp
    · rename_i hr
      have h1 := splitAux_length f (restOf left cols) cols true hc
      have hl : left ≠ [] := fun e => hr (by rw [restOf, e]; simp)
      have h2 := takeF_pos left cols hc hl
      have h3 := restOf_length left cols
      have h4 := takeF_le left cols
      simp only [List.length_cons]
      omega
theorem splitAux_sum : ∀ (f : Nat) (left : List CellV) (cols : Nat) (cont : Bool), sumLen (splitAux f left cols cont) = (splitAux f left cols cont).length * cols
  | 0, _, _, _ => by simp [splitAux, sumLen]
  | f + 1, left, cols, cont => by
    have h1 := splitAux_sum f (restOf left cols) cols true
    have hc : ∀ (r : RowL) (rs : List RowL), sumLen (r :: rs) = r.1.length + sumLen rs := fun r rs => by simp [sumLen]
    rw [splitAux]
    split
    · simp [sumLen, rowOf_length]
    · rw [hc, h1, List.length_cons, rowOf_length, Nat.add_mul, Nat.one_mul, Nat.add_comm]
theorem splitF_sum (l : List CellV) (cols : Nat) (hc : 2 ≤ cols) (hc2 : cols ≤ 1000) (hl : l.length ≤ 400) : (splitF l cols).length ≤ 401 ∧ sumLen (splitF l cols) ≤ 401000 := by
  have h1 := splitAux_length (l.length + 1) (plainF l) cols false hc
  rw [plainF_length] at h1
  refine ⟨by unfold splitF; omega, ?_⟩
  rw [splitF, splitAux_sum]
  calc _ ≤ 401 * 1000 := Nat.mul_le_mul (by omega) hc2
    _ = 401000 := rfl
theorem rowOf_cells_end (left : List CellV) (cols : Nat) (hp : NoPad left) (hr : restOf left cols = []) : ∃ k, (rowOf left cols).filter (fun c => decide (c.half ≠ 3)) = left ++ List.replicate k zeroC := by
  have ht : left.take (takeF left cols) = left := by
    have := List.take_append_drop (takeF left cols) left
    rw [show left.drop (takeF left cols) = [] from hr, List.append_nil] at this
    exact this
  refine ⟨cols - takeF left cols, ?_⟩
  rw [rowOf, if_neg (by simp [hr]), ht, List.filter_append, noPad_filter _ hp, noPad_filter]
  intro c hc
  rw [List.mem_replicate] at hc
  rw [hc.2]
  decide
theorem rowOf_cells (left : List CellV) (cols : Nat) (hp : NoPad left) (hr : restOf left cols ≠ []) : (rowOf left cols).filter (fun c => decide (c.half ≠ 3)) = left.take (takeF left cols) := by
  have htp : NoPad (left.take (takeF left cols)) := fun c hc => hp c (List.mem_of_mem_take hc)
  have hle := takeF_le left cols
  have htl : (left.take (takeF left cols)).length = takeF left cols := by simp [List.length_take]; omega
  have hcases : takeF left cols = cols - 1 ∨ takeF left cols = cols := by
    unfold restOf at hr
    unfold takeF at hr ⊢
    by_cases h : left.length < cols
    · rw [if_pos h] at hr; simp at hr
    · rw [if_neg h]; split <;> simp
  by_cases h1 : takeF left cols = cols - 1 ∧ restOf left cols ≠ []
  · rw [rowOf, if_pos h1]
    by_cases hz : cols - takeF left cols = 0
    · rw [hz, List.replicate_zero, List.append_nil, List.set_eq_of_length_le (by omega), noPad_filter _ htp]
    · obtain ⟨k, hk⟩ : ∃ k, cols - takeF left cols = k + 1 := ⟨cols - takeF left cols - 1, by omega⟩
      have hk0 : k = 0 := by omega
      subst hk0
      rw [hk, List.set_append_right _ _ (by omega), htl, Nat.sub_self, List.filter_append, noPad_filter _ htp]
      simp [padC, List.replicate]
  · rcases hcases with h | h
    · exact absurd ⟨h, hr⟩ h1
    · rw [rowOf, if_neg h1, h, Nat.sub_self, List.replicate_zero, List.append_nil, ← h, noPad_filter _ htp]
theorem cellsOf_splitAux : ∀ (f : Nat) (left : List CellV) (cols : Nat) (cont : Bool), 2 ≤ cols → NoPad left → left.length < f → ∃ k, cellsOf (splitAux f left cols cont) = left ++ List.replicate k zeroC
  | 0, _, _, _, _, _, h => absurd h (by omega)
  | f + 1, left, cols, cont, hc, hp, hf => by
    have hcons : ∀ (r : RowL) (rs : List RowL), cellsOf (r :: rs) = r.1.filter (fun c => decide (c.half ≠ 3)) ++ cellsOf rs := fun r rs => by simp [cellsOf]
    rw [splitAux, hcons]
    by_cases hr : restOf left cols = []
    · rw [if_pos hr]
      obtain ⟨k, hk⟩ := rowOf_cells_end left cols hp hr
      exact ⟨k, by rw [hk]; simp [cellsOf]⟩
    · rw [if_neg hr]
      have hl : left ≠ [] := fun e => hr (by rw [restOf, e]; simp)
      have h2 := takeF_pos left cols hc hl
      have h3 := restOf_length left cols
      have h4 := takeF_le left cols
      obtain ⟨k, hk⟩ := cellsOf_splitAux f (restOf left cols) cols true hc (fun c hcm => hp c (List.mem_of_mem_drop hcm)) (by omega)
      refine ⟨k, ?_⟩
      rw [hk, rowOf_cells left cols hp hr, ← List.append_assoc, restOf, List.take_append_drop]
theorem flow_splitF (l : List CellV) (cols : Nat) (hc : 2 ≤ cols) : flowF (splitF l cols) = trimL (plainF l) := by
  obtain ⟨k, hk⟩ := cellsOf_splitAux (l.length + 1) (plainF l) cols false hc (noPad_mend _ (noPad_unpad l)) (by rw [plainF_length]; omega)
  rw [flowF, splitF, hk, plainF, mendL_mend_zeros _ (noPad_unpad l), trimL_zeros]
theorem back_law (p : List CellV) (cols : Nat) (hc : 2 ≤ cols) (hp : NoPad p) : flowF (splitF p cols) = trimL (mendL p) := by
  rw [flow_splitF p cols hc, plainF, map_unpad_noPad p hp]
end Go.Proofs.Ytmdmdlfdijdhgaa.Mq
