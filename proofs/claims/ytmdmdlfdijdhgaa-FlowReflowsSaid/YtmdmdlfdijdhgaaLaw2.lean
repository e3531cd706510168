/- plain law: rows cell by cell are the rows -/
import Derived.Test.YtmdmdlfdijdhgaaLaw1
namespace Go.Proofs.Ytmdmdlfdijdhgaa.Mq
open Go Go.RowKit Go.Proofs

/-- the current row ahead of a cell: a Pad where it must -/
def padB (cols : Nat) (cur : List CellV) (x : CellV) : List CellV := if cur.length = cols - 1 ∧ x.half = 1 then cur ++ [padC] else cur
def goR (cols : Nat) : List RowL → List CellV → List CellV → List RowL
  | dn, cur, [] => dn ++ [(cur ++ List.replicate (cols - cur.length) zeroC, decide (dn ≠ []))]
  | dn, cur, x :: l => if (padB cols cur x).length = cols then goR cols (dn ++ [(padB cols cur x, decide (dn ≠ []))]) [x] l else goR cols dn (padB cols cur x ++ [x]) l
theorem takeF_cases (left : List CellV) (cols : Nat) (h : takeF left cols < left.length) : cols ≤ left.length ∧ ((takeF left cols = cols - 1 ∧ (left[cols - 1]?.map (·.half)) = some 1) ∨ (takeF left cols = cols ∧ (left[cols - 1]?.map (·.half)) ≠ some 1)) := by
  unfold takeF at h ⊢
  by_cases h1 : left.length < cols
  · rw [if_pos h1] at h; omega
  · rw [if_neg h1]
    refine ⟨by omega, ?_⟩
    by_cases h2 : (left[cols - 1]?.map (·.half)) = some 1
    · rw [if_pos h2]; exact .inl ⟨rfl, h2⟩
    · rw [if_neg h2]; exact .inr ⟨rfl, h2⟩
theorem goR_split (cols : Nat) (hc : 2 ≤ cols) : ∀ (l : List CellV) (left : List CellV) (j : Nat) (dn : List RowL) (f : Nat), l = left.drop j → j ≤ takeF left cols → left.length < f →
    goR cols dn (left.take j) l = dn ++ splitAux f left cols (decide (dn ≠ []))
  | [], left, j, dn, f, hl, hj, hf => by
    obtain ⟨f, rfl⟩ : ∃ f', f = f' + 1 := ⟨f - 1, by omega⟩
    have hjl : left.length ≤ j := List.drop_eq_nil_iff.1 hl.symm
    have htl := takeF_le left cols
    have hr : restOf left cols = [] := by unfold restOf; exact List.drop_eq_nil_of_le (by omega)
    have ht : takeF left cols = left.length := by omega
    rw [goR, splitAux, if_pos hr, rowOf, if_neg (by simp [hr]), ht, List.take_of_length_le hjl, List.take_of_length_le (Nat.le_refl _)]
  | x :: l, left, j, dn, f, hl, hj, hf => by
    obtain ⟨f, rfl⟩ : ∃ f', f = f' + 1 := ⟨f - 1, by omega⟩
    have hjl : j < left.length := by
      have := congrArg List.length hl
      simp at this
      omega
    have hx : left[j]? = some x := by
      have := congrArg (fun l => l[0]?) hl
      simpa using this.symm
    have hdr : l = left.drop (j + 1) := by
      have := congrArg List.tail hl
      simpa using this
    have htl := takeF_le left cols
    have hlen : (left.take j).length = j := by simp; omega
    by_cases hjt : j < takeF left cols
    · have hnp : padB cols (left.take j) x = left.take j := by
        unfold padB
        rw [if_neg]
        rintro ⟨h1, h2⟩
        rw [hlen] at h1
        have h3 : takeF left cols = cols - 1 := by
          unfold takeF
          rw [if_neg (by omega), if_pos]
          rw [← h1, hx]
          simp [h2]
        omega
      rw [goR, hnp, if_neg (by omega), ← take_snoc' hx]
      exact goR_split cols hc l left (j + 1) dn (f + 1) hdr (by omega) hf
    · have hjt : j = takeF left cols := by omega
      subst hjt
      obtain ⟨hcl, hcase⟩ := takeF_cases left cols hjl
      have hrne : restOf left cols ≠ [] := by
        unfold restOf
        intro e
        rw [List.drop_eq_nil_iff] at e
        omega
      have htp := takeF_pos left cols hc (fun e => by subst e; simp at hjl)
      have hrow : padB cols (left.take (takeF left cols)) x = rowOf left cols ∧ (padB cols (left.take (takeF left cols)) x).length = cols := by
        rcases hcase with ⟨h1, h2⟩ | ⟨h1, h2⟩
        · have hxh : x.half = 1 := by
            rw [← h1, hx] at h2
            simpa using h2
          unfold padB
          rw [if_pos ⟨by omega, hxh⟩, rowOf, if_pos ⟨h1, hrne⟩]
          rw [show cols - takeF left cols = 0 + 1 by omega, List.replicate_succ, List.replicate_zero, List.set_append_right _ _ (by omega), hlen, Nat.sub_self]
          exact ⟨rfl, by simp; omega⟩
        · unfold padB
          rw [if_neg (by rintro ⟨h3, _⟩; omega), rowOf, if_neg (by rintro ⟨h3, _⟩; omega)]
          rw [show cols - takeF left cols = 0 by omega, List.replicate_zero, List.append_nil]
          exact ⟨rfl, by omega⟩
      rw [goR, if_pos hrow.2, hrow.1, splitAux, if_neg hrne]
      have hrx : [x] = (restOf left cols).take 1 := by
        unfold restOf
        rw [← hl]
        rfl
      have hrd : l = (restOf left cols).drop 1 := by
        unfold restOf
        rw [← hl]
        rfl
      have hrl := restOf_length left cols
      rw [hrx, goR_split cols hc l (restOf left cols) 1 (dn ++ [(rowOf left cols, decide (dn ≠ []))]) f hrd (takeF_pos _ cols hc hrne) (by omega)]
      simp
theorem goR_splitF (l : List CellV) (cols : Nat) (hc : 2 ≤ cols) : goR cols [] [] (plainF l) = splitF l cols := by
  have := goR_split cols hc (plainF l) (plainF l) 0 [] (l.length + 1) rfl (Nat.zero_le _) (by rw [plainF_length]; omega)
  rw [List.take_zero] at this
  rw [this]
  rfl
end Go.Proofs.Ytmdmdlfdijdhgaa.Mq
