/- plain laws: reflowed rows, reflowed again -/
import Derived.Test.YtmdmdlfdijdhgaaReflow5
namespace Go.Proofs.Ytmdmdlfdijdhgaa.Mq
open Go Go.RowKit Go.Proofs

theorem drop_zero_r {l : List CellV} (h : ∀ c ∈ l, c.r = 0) (A : List CellV) : usedL (A ++ l) = usedL A := by
  induction l generalizing A with
  | nil => simp
  | cons c l ih =>
    rw [show A ++ c :: l = (A ++ [c]) ++ l by simp, ih (fun x hx => h x (List.mem_cons_of_mem _ hx)), usedL_snoc, if_pos (h c (by simp))]
/-- what is left of a row, and what is cut -/
theorem used_parts : ∀ (n : Nat) (l : List CellV), l.length = n → ∃ t, l = trimL l ++ t ∧ (∀ c ∈ t, c.r = 0) ∧ (∀ c, (trimL l).getLast? = some c → c.r ≠ 0)
  | 0, l, h => by
    have : l = [] := List.eq_nil_of_length_eq_zero h
    subst this
    exact ⟨[], rfl, by simp, by simp [trimL]⟩
  | n + 1, l, h => by
    obtain ⟨m, c, rfl⟩ : ∃ m c, l = m ++ [c] := by
      rcases List.eq_nil_or_concat l with h2 | ⟨m, c, h2⟩
      · subst h2; simp at h
      · exact ⟨m, c, by simpa using h2⟩
    have hm : m.length = n := by simpa using h
    by_cases hc : c.r = 0
    · obtain ⟨t, h1, h2, h3⟩ := used_parts n m hm
      have ht : trimL (m ++ [c]) = trimL m := by
        unfold trimL
        rw [usedL_snoc, if_pos hc, List.take_append_of_le_length (usedL_le m)]
      refine ⟨t ++ [c], by rw [ht, ← List.append_assoc, ← h1], fun x hx => ?_, by rw [ht]; exact h3⟩
      rcases List.mem_append.1 hx with h | h
      · exact h2 x h
      · rw [List.mem_singleton.1 h]; exact hc
    · have ht : trimL (m ++ [c]) = m ++ [c] := by
        unfold trimL
        rw [usedL_snoc, if_neg hc]
        exact List.take_of_length_le (by simp)
      exact ⟨[], by rw [ht]; simp, by simp, fun x hx => by rw [ht] at hx; simp at hx; rw [← hx]; exact hc⟩
theorem pairs_r {c d : CellV} (h : pairs c d = true) : c.r = d.r := by
  simp only [pairs, pairB, Bool.and_eq_true, decide_eq_true_eq] at h
  have h2 := congrArg CellV.r h.2.2
  exact h2
theorem mend_cut (A : List CellV) : ∀ (t : List CellV), (∀ c ∈ t, c.r = 0) → (∀ c, A.getLast? = some c → c.r ≠ 0) → NoPad A → mendL (A ++ t) = A ++ t → mendL A = A := by
  induction A using mendL.induct with
  | case1 => intros; rfl
  | case2 c =>
    intro t ht hl hp hm
    have hc : c.r ≠ 0 := hl c rfl
    have h3 : c.half ≠ 3 := hp c (by simp)
    by_cases h0 : c.half = 0
    · simp [mendL, h0]
    · exfalso
      cases t with
      | nil => 
        simp only [List.append_nil, mendL, h0, h3, or_self, if_false, List.cons.injEq, and_true] at hm
        rw [← hm] at hc
        exact hc rfl
      | cons d t =>
        have hd : d.r = 0 := ht d (by simp)
        have hpr : ¬ pairs c d = true := fun h => hc ((pairs_r h).trans hd)
        rw [List.singleton_append, mendL, if_neg h0, if_neg hpr, List.cons.injEq] at hm
        have := hm.1
        rw [← this] at hc
        exact hc rfl
  | case3 c d l h ih =>
    intro t ht hl hp hm
    simp only [List.cons_append, mendL, h, if_true, List.cons.injEq, true_and] at hm
    simp only [mendL, h, if_true]
    rw [ih t ht (fun x hx => hl x (by rw [List.getLast?_cons_cons]; exact hx)) (fun x hx => hp x (List.mem_cons_of_mem _ hx)) hm]
  | case4 c d l h hpr ih =>
    intro t ht hl hp hm
    simp only [List.cons_append, mendL, h, hpr, if_true, if_false, List.cons.injEq, true_and] at hm
    simp only [mendL, h, hpr, if_true, if_false]
    rw [ih t ht (fun x hx => ?_) (fun x hx => hp x (List.mem_cons_of_mem _ (List.mem_cons_of_mem _ hx))) hm]
    cases l with
    | nil => simp at hx
    | cons y l => exact hl x (by rw [List.getLast?_cons_cons, List.getLast?_cons_cons]; exact hx)
  | case5 c d l h hpr ih =>
    intro t ht hl hp hm
    rw [List.cons_append, List.cons_append, mendL, if_neg h, if_neg hpr, List.cons.injEq] at hm
    exact absurd (by rw [← hm.1]; rfl) h
theorem noPad_trim {l : List CellV} (h : NoPad l) : NoPad (trimL l) := fun c hc => h c (List.mem_of_mem_take hc)
theorem flow_noPad (rows : List RowL) : NoPad (mendL (cellsOf rows)) := noPad_mend _ (fun c hc => by simpa using (List.mem_filter.1 hc).2)
theorem flow_again (rows : List RowL) (cols : Nat) (hc : 2 ≤ cols) : flowF (splitF (flowF rows) cols) = flowF rows := by
  have hp := flow_noPad rows
  have hb := back_law (flowF rows) cols hc (noPad_trim hp)
  rw [hb]
  generalize hM : mendL (cellsOf rows) = M at hp
  have hMM : mendL M = M := by rw [← hM, mendL_cons_mend]
  have hf : flowF rows = trimL M := by rw [flowF, hM]
  obtain ⟨t, h1, h2, h3⟩ := used_parts _ M rfl
  rw [hf, mend_cut (trimL M) t h2 h3 (noPad_trim hp) (by rw [← h1]; exact hMM)]
  obtain ⟨t2, g1, g2, g3⟩ := used_parts _ (trimL M) rfl
  have hu : usedL (trimL M) = usedL M := by
    conv => rhs; rw [h1]
    rw [drop_zero_r h2]
  rw [trimL, hu, trimL, List.take_take, Nat.min_self]
/-- lines of reflowed rows -/
def shiftL (rows : List RowL) (cols : Nat) : List (Int × Int) → Nat → List (Int × Int)
  | [], _ => []
  | ln :: L, base => ((base : Int), ((base + (segF rows cols ln).length : Nat) : Int)) :: shiftL rows cols L (base + (segF rows cols ln).length)
theorem shiftL_snoc (rows : List RowL) (cols : Nat) (ln : Int × Int) : ∀ (L : List (Int × Int)) (base : Nat),
    shiftL rows cols (L ++ [ln]) base = shiftL rows cols L base ++ [(((base + (outF rows cols L).length : Nat) : Int), ((base + (outF rows cols L).length + (segF rows cols ln).length : Nat) : Int))]
  | [], base => by simp [shiftL, outF]
  | x :: L, base => by
    have h : (outF rows cols (x :: L)).length = (segF rows cols x).length + (outF rows cols L).length := by simp [outF]
    rw [List.cons_append, shiftL, shiftL_snoc rows cols ln L, h, shiftL, List.cons_append, Nat.add_assoc base]
theorem splitAux_cont : ∀ (f : Nat) (left : List CellV) (cols : Nat) (cont : Bool) (k : Nat), 1 ≤ k → k < (splitAux f left cols cont).length → contAt (splitAux f left cols cont) k = true
  | 0, _, _, _, k, h1, h2 => by simp [splitAux] at h2
  | f + 1, left, cols, cont, k, h1, h2 => by
    rw [splitAux] at h2 ⊢
    split at h2
    · simp at h2; omega
    · rename_i hr
      rw [if_neg hr]
      simp only [List.length_cons] at h2
      obtain ⟨k, rfl⟩ : ∃ j, k = j + 1 := ⟨k - 1, by omega⟩
      have h : contAt ((rowOf left cols, cont) :: splitAux f (restOf left cols) cols true) (k + 1) = contAt (splitAux f (restOf left cols) cols true) k := by simp [contAt]
      rw [h]
      by_cases hk : k = 0
      · subst hk
        cases f with
        | zero => simp [splitAux] at h2
        | succ f => simp [splitAux, contAt]
      · exact splitAux_cont f _ cols true k (by omega) (by omega)
theorem splitF_cont (l : List CellV) (cols : Nat) : 1 ≤ (splitF l cols).length ∧ contAt (splitF l cols) 0 = false ∧ ∀ k, 1 ≤ k → k < (splitF l cols).length → contAt (splitF l cols) k = true :=
  ⟨by rw [splitF, splitAux]; simp, by rw [splitF, splitAux]; simp [contAt], fun k h1 h2 => splitAux_cont _ _ _ _ k h1 h2⟩
theorem contAt_app_left {a b : List RowL} {k : Nat} (h : k < a.length) : contAt (a ++ b) k = contAt a k := by rw [contAt, contAt, List.getElem?_append_left h]
theorem contAt_app_right {a b : List RowL} {k : Nat} : contAt (a ++ b) (a.length + k) = contAt b k := by rw [contAt, contAt, List.getElem?_append_right (by omega)]; simp
theorem linesL_app {a b : List RowL} : ∀ (k : Nat), k ≤ a.length → linesL (a ++ b) k = linesL a k
  | 0, _ => rfl
  | k + 1, h => by rw [linesL, linesL, linesL_app k (by omega), contAt_app_left (by omega)]
theorem lines_seg {out seg : List RowL} (h0 : contAt seg 0 = false) (h1 : ∀ k, 1 ≤ k → k < seg.length → contAt seg k = true) : ∀ (j : Nat), 1 ≤ j → j ≤ seg.length →
    linesL (out ++ seg) (out.length + j) = linesL out out.length ++ [((out.length : Int), ((out.length + j : Nat) : Int))]
  | 0, h, _ => by omega
  | j + 1, _, hj => by
    have e : out.length + (j + 1) = (out.length + j) + 1 := by omega
    rw [e, linesL, contAt_app_right]
    by_cases h : j = 0
    · subst h
      rw [Nat.add_zero, linesL_app _ (Nat.le_refl _), h0, linesStep]
      cases hl : (linesL out out.length).getLast? with
      | none => 
        have : linesL out out.length = [] := by simpa using hl
        simp [this]
      | some p => simp
    · rw [lines_seg h0 h1 j (by omega) (by omega), h1 j (by omega) (by omega), linesStep]
      simp
theorem lines_out (rows : List RowL) (cols : Nat) (L : List (Int × Int)) : linesL (outF rows cols L) (outF rows cols L).length = shiftL rows cols L 0 := by
  have key : ∀ (n : Nat) (L : List (Int × Int)), L.length = n → linesL (outF rows cols L) (outF rows cols L).length = shiftL rows cols L 0 := by
    intro n
    induction n with
    | zero =>
      intro L h
      have : L = [] := List.eq_nil_of_length_eq_zero h
      subst this
      rfl
    | succ n ih =>
      intro L h
      obtain ⟨M, ln, rfl⟩ : ∃ M ln, L = M ++ [ln] := by
        rcases List.eq_nil_or_concat L with h2 | ⟨m, c, h2⟩
        · subst h2; simp at h
        · exact ⟨m, c, by simpa using h2⟩
      obtain ⟨g1, g2, g3⟩ := splitF_cont (flowF (segOld rows ln)) cols
      have e : segF rows cols ln = splitF (flowF (segOld rows ln)) cols := rfl
      rw [← e] at g1 g2 g3
      rw [outF_snoc, List.length_append, lines_seg g2 g3 _ g1 (Nat.le_refl _), ih M (by simpa using h), shiftL_snoc, Nat.zero_add]
  exact key _ L rfl
theorem shift_flow (rows : List RowL) (cols : Nat) (hc : 2 ≤ cols) : ∀ (L : List (Int × Int)) (P Q : List RowL), (shiftL rows cols L P.length).map (fun ln => flowF (segOld (P ++ outF rows cols L ++ Q) ln)) = L.map (fun ln => flowF (segOld rows ln))
  | [], P, Q => rfl
  | ln :: L, P, Q => by
    have h : outF rows cols (ln :: L) = segF rows cols ln ++ outF rows cols L := by simp [outF]
    have e : P ++ outF rows cols (ln :: L) ++ Q = (P ++ segF rows cols ln) ++ outF rows cols L ++ Q := by rw [h]; simp [List.append_assoc]
    have ih := shift_flow rows cols hc L (P ++ segF rows cols ln) Q
    rw [List.length_append] at ih
    rw [shiftL, List.map_cons, List.map_cons, e, ih]
    congr 1
    have hs : segOld ((P ++ segF rows cols ln) ++ outF rows cols L ++ Q) ((P.length : Int), ((P.length + (segF rows cols ln).length : Nat) : Int)) = segF rows cols ln := by
      have h1 : ((P ++ segF rows cols ln) ++ outF rows cols L ++ Q) = (P ++ segF rows cols ln) ++ (outF rows cols L ++ Q) := by simp [List.append_assoc]
      rw [segOld, h1]
      simp only [Int.toNat_natCast]
      rw [List.take_append_of_le_length (by simp), List.take_of_length_le (by simp), List.drop_append_of_le_length (by simp), List.drop_length, List.nil_append]
    rw [hs]
    exact flow_again _ _ hc
theorem outF_flow (rows : List RowL) (cols : Nat) (L : List (Int × Int)) : outF rows cols L = (L.map (fun ln => flowF (segOld rows ln))).flatMap (fun f => splitF f cols) := by
  rw [outF, List.flatMap_map]
  rfl
/-- reflowed twice is reflowed at once -/
theorem twice_law (rows : List RowL) (x y : Nat) (hx : 2 ≤ x) :
    outF (outF rows x (linesL rows rows.length)) y (linesL (outF rows x (linesL rows rows.length)) (outF rows x (linesL rows rows.length)).length) = outF rows y (linesL rows rows.length) := by
  have h := shift_flow rows x hx (linesL rows rows.length) [] []
  simp only [List.nil_append, List.append_nil, List.length_nil] at h
  rw [lines_out, outF_flow, h, ← outF_flow]
theorem twice_flow (rows : List RowL) (x F : Nat) (hx : 2 ≤ x) (hF : ∀ ln, (flowF (segOld rows ln)).length ≤ F) :
    ∀ ln ∈ linesL (outF rows x (linesL rows rows.length)) (outF rows x (linesL rows rows.length)).length, (flowF (segOld (outF rows x (linesL rows rows.length)) ln)).length ≤ F := by
  intro ln hln
  have h := shift_flow rows x hx (linesL rows rows.length) [] []
  simp only [List.nil_append, List.append_nil, List.length_nil] at h
  rw [lines_out] at hln
  have hm := List.mem_map_of_mem (f := fun ln => flowF (segOld (outF rows x (linesL rows rows.length)) ln)) hln
  rw [h] at hm
  obtain ⟨ln2, _, h2⟩ := List.mem_map.1 hm
  rw [← h2]
  exact hF ln2
theorem outF_sum (rows : List RowL) (cols : Nat) : ∀ (L : List (Int × Int)), sumLen (outF rows cols L) = (outF rows cols L).length * cols
  | [] => by simp [outF, sumLen]
  | ln :: L => by
    have h : outF rows cols (ln :: L) = segF rows cols ln ++ outF rows cols L := by simp [outF]
    rw [h, sumLen_app, outF_sum rows cols L, List.length_append, Nat.add_mul, segF, splitF, splitAux_sum]
end Go.Proofs.Ytmdmdlfdijdhgaa.Mq
