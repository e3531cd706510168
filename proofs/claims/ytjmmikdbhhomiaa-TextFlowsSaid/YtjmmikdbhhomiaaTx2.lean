/- text: the text of a reflowed document, in plain words -/
import Derived.Test.YtjmmikdbhhomiaaTx1
namespace Go.Proofs.Ytjmmikdbhhomiaa.Mq
open Go Go.RowKit Go.Proofs

theorem shift_any {β : Type} (G : List RowL → β) (rows : List RowL) (cols : Nat) : ∀ (L : List (Int × Int)) (P Q : List RowL), (shiftL rows cols L P.length).map (fun ln => G (segOld (P ++ outF rows cols L ++ Q) ln)) = L.map (fun ln => G (segF rows cols ln))
  | [], P, Q => rfl
  | ln :: L, P, Q => by
    have h : outF rows cols (ln :: L) = segF rows cols ln ++ outF rows cols L := by simp [outF]
    have e : P ++ outF rows cols (ln :: L) ++ Q = (P ++ segF rows cols ln) ++ outF rows cols L ++ Q := by rw [h]; simp [List.append_assoc]
    have ih := shift_any G rows cols L (P ++ segF rows cols ln) Q
    rw [List.length_append] at ih
    rw [shiftL, List.map_cons, List.map_cons, e, ih]
    congr 1
    have hs : segOld ((P ++ segF rows cols ln) ++ outF rows cols L ++ Q) ((P.length : Int), ((P.length + (segF rows cols ln).length : Nat) : Int)) = segF rows cols ln := by
      have h1 : ((P ++ segF rows cols ln) ++ outF rows cols L ++ Q) = (P ++ segF rows cols ln) ++ (outF rows cols L ++ Q) := by simp [List.append_assoc]
      rw [segOld, h1]
      simp only [Int.toNat_natCast]
      rw [List.take_append_of_le_length (by simp), List.take_of_length_le (by simp), List.drop_append_of_le_length (by simp), List.drop_length, List.nil_append]
    rw [hs]
def RightDoc (rows : List RowL) : Prop := ∀ ln ∈ linesL rows rows.length, mendL (cellsOf (segOld rows ln)) = cellsOf (segOld rows ln)
theorem seg_trim {rows : List RowL} {cols : Nat} (hc : 2 ≤ cols) {ln : Int × Int} (h : mendL (cellsOf (segOld rows ln)) = cellsOf (segOld rows ln)) : trimL (cellsOf (segF rows cols ln)) = trimL (cellsOf (segOld rows ln)) := by
  have h1 := flow_again (segOld rows ln) cols hc
  have h2 := flow_splitF (flowF (segOld rows ln)) cols hc
  obtain ⟨k, hk⟩ := cellsOf_splitAux ((flowF (segOld rows ln)).length + 1) (plainF (flowF (segOld rows ln))) cols false hc (noPad_mend _ (noPad_unpad _)) (by rw [plainF_length]; omega)
  have h3 : cellsOf (segF rows cols ln) = plainF (flowF (segOld rows ln)) ++ List.replicate k zeroC := hk
  rw [h3, trimL_zeros, ← h2, h1, flowF, h]
/-- P21.3 -/
theorem text_flows {rows : List RowL} {cols : Nat} (hc : 2 ≤ cols) (h : RightDoc rows) :
    ofF (outF rows cols (linesL rows rows.length)) ⟨0, 0⟩ ⟨((outF rows cols (linesL rows rows.length)).length : Int), 0⟩ = ofF rows ⟨0, 0⟩ ⟨(rows.length : Int), 0⟩ := by
  rw [of_whole, of_whole, lines_out]
  have hs := shift_any (fun seg => (trimL (cellsOf seg)).flatMap cellT ++ [10]) rows cols (linesL rows rows.length) [] []
  simp only [List.nil_append, List.append_nil, List.length_nil] at hs
  rw [List.flatMap_def, List.flatMap_def]
  have e1 : (shiftL rows cols (linesL rows rows.length) 0).map (lnT (outF rows cols (linesL rows rows.length))) = (linesL rows rows.length).map (lnT rows) := by
    refine Eq.trans hs (List.map_congr_left fun ln hln => ?_)
    unfold lnT
    rw [seg_trim hc (h ln hln)]
  rw [e1]
/- the line that the law makes -/
def cutPad (r : List CellV) : List CellV := if (r.getLast?.map (·.half)).getD 0 = 3 then r.dropLast else r
def lawL (seg : List RowL) : List CellV := seg.flatMap (fun r => cutPad r.1)
theorem mend_noPad : ∀ l : List CellV, mendL l = l → (∀ c, l.getLast? = some c → c.half ≠ 3) → NoPad l := by
  intro l
  fun_induction mendL l with
  | case1 => intro _ _ c hc; cases hc
  | case2 c => intro _ hl d hd; rw [List.mem_singleton.1 hd]; exact hl c rfl
  | case3 c d l h ih =>
    intro hm hl x hx
    have hm2 := (List.cons.inj hm).2
    rcases List.mem_cons.1 hx with rfl | hx
    · omega
    · exact ih hm2 (fun y hy => hl y (by rw [List.getLast?_cons_cons]; exact hy)) x hx
  | case4 c d l h hp ih =>
    intro hm hl x hx
    have hm2 := (List.cons.inj (List.cons.inj hm).2).2
    simp only [pairs, Bool.and_eq_true, decide_eq_true_eq] at hp
    rcases List.mem_cons.1 hx with rfl | hx
    · omega
    · rcases List.mem_cons.1 hx with rfl | hx
      · omega
      · refine ih hm2 (fun y hy => hl y ?_) x hx
        cases l with
        | nil => cases hy
        | cons z l => rw [List.getLast?_cons_cons, List.getLast?_cons_cons]; exact hy
  | case5 c d l h hp ih =>
    intro hm hl x hx
    have hm1 := (List.cons.inj hm).1
    exact absurd (by rw [← hm1]; rfl) h
theorem cutPad_filter {r : List CellV} (h : NoPad (cutPad r)) : r.filter (fun c => decide (c.half ≠ 3)) = cutPad r := by
  unfold cutPad at h ⊢
  split
  · rename_i h3
    rw [if_pos h3] at h
    rcases List.eq_nil_or_concat r with rfl | ⟨m, c, e⟩
    · rfl
    · rw [List.concat_eq_append] at e
      subst e
      rw [List.getLast?_concat] at h3
      have h3' : c.half = 3 := h3
      rw [List.dropLast_concat] at h ⊢
      rw [List.filter_append, noPad_filter _ h, List.filter_cons_of_neg (by simp [h3'])]
      simp
  · rename_i h3
    rw [if_neg h3] at h
    exact noPad_filter _ h
theorem lawL_cells : ∀ seg : List RowL, NoPad (lawL seg) → cellsOf seg = lawL seg
  | [], _ => rfl
  | r :: seg, h => by
    have e : lawL (r :: seg) = cutPad r.1 ++ lawL seg := by simp [lawL]
    rw [e] at h ⊢
    have e2 : cellsOf (r :: seg) = r.1.filter (fun c => decide (c.half ≠ 3)) ++ cellsOf seg := by simp [cellsOf]
    rw [e2, cutPad_filter (fun c hc => h c (List.mem_append_left _ hc)), lawL_cells seg (fun c hc => h c (List.mem_append_right _ hc))]
theorem lawL_right {seg : List RowL} (h : mendL (lawL seg) = lawL seg) (hl : ∀ c, (lawL seg).getLast? = some c → c.half ≠ 3) : mendL (cellsOf seg) = cellsOf seg := by
  rw [lawL_cells seg (mend_noPad _ h hl)]
  exact h
theorem cutPad_len (r : List CellV) : (cutPad r).length ≤ r.length := by
  unfold cutPad
  split
  · simp
  · exact Nat.le_refl _
theorem lawL_len : ∀ seg : List RowL, (lawL seg).length ≤ sumLen seg
  | [] => Nat.le_refl _
  | r :: seg => by
    have e : lawL (r :: seg) = cutPad r.1 ++ lawL seg := by simp [lawL]
    have h1 := cutPad_len r.1
    have h2 := lawL_len seg
    have e2 : sumLen (r :: seg) = r.1.length + sumLen seg := by simp [sumLen]
    rw [e, e2, List.length_append]; omega
end Go.Proofs.Ytjmmikdbhhomiaa.Mq
