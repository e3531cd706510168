/- plain laws: places stay in their order -/
import Derived.Test.YtmdmdlfdijdhgaaTwice1
namespace Go.Proofs.Ytmdmdlfdijdhgaa.Mq
open Go Go.RowKit Go.Proofs

def leP (p q : PosV) : Prop := p.row < q.row ∨ p.row = q.row ∧ p.col ≤ q.col
theorem offR_mono {rows : List RowL} {p q : PosV} (h : p.row < q.row ∨ p.row = q.row ∧ max 0 p.col ≤ max 0 q.col) : offR rows p ≤ offR rows q := by
  have hb := offR_bd rows q
  by_cases hp : p.row < 0
  · have : offR rows p = 0 := by rw [offR, if_pos hp]
    omega
  · by_cases hpl : (rows.length : Int) ≤ p.row
    · have e1 : offR rows p = (cnt rows rows.length : Int) := by rw [offR, if_neg hp, if_pos hpl]
      have e2 : offR rows q = (cnt rows rows.length : Int) := by rw [offR, if_neg (by omega), if_pos (by omega)]
      omega
    · have e1 : offR rows p = (cnt rows p.row.toNat : Int) + min (max 0 p.col) ((cnt rows (p.row.toNat + 1) : Int) - (cnt rows p.row.toNat : Int)) := by rw [offR, if_neg hp, if_neg hpl]
      have m1 := cnt_mono (rows := rows) (j := p.row.toNat) (k := p.row.toNat + 1) (by omega)
      by_cases hql : (rows.length : Int) ≤ q.row
      · have e2 : offR rows q = (cnt rows rows.length : Int) := by rw [offR, if_neg (by omega), if_pos hql]
        have m2 := cnt_mono (rows := rows) (j := p.row.toNat + 1) (k := rows.length) (by omega)
        omega
      · have e2 : offR rows q = (cnt rows q.row.toNat : Int) + min (max 0 q.col) ((cnt rows (q.row.toNat + 1) : Int) - (cnt rows q.row.toNat : Int)) := by rw [offR, if_neg (by omega), if_neg hql]
        have m3 := cnt_mono (rows := rows) (j := q.row.toNat) (k := q.row.toNat + 1) (by omega)
        rcases h with h | ⟨h1, h2⟩
        · have m2 := cnt_mono (rows := rows) (j := p.row.toNat + 1) (k := q.row.toNat) (by omega)
          omega
        · rw [e1, e2, ← h1]
          omega
theorem placeR_mono {rows : List RowL} {o u : Int} (h : o ≤ u) : leP (placeR rows o) (placeR rows u) := by
  by_cases h0 : rows.length = 0
  · rw [placeR, if_pos h0, placeR, if_pos h0]; exact .inr ⟨rfl, Int.le_refl _⟩
  obtain ⟨a1, a2, a3⟩ := findK_is rows (max 0 o)
  obtain ⟨b1, b2, b3⟩ := findK_is rows (max 0 u)
  have hk : findK rows (max 0 o) ≤ findK rows (max 0 u) := by
    rcases Nat.lt_or_ge (findK rows (max 0 u)) (findK rows (max 0 o)) with h | h
    · have := a2 _ h; have := b3 (by omega); omega
    · exact h
  rw [placeR, if_neg h0, placeR, if_neg h0]
  generalize findK rows (max 0 o) = k1 at *
  generalize findK rows (max 0 u) = k2 at *
  by_cases h1 : k1 = rows.length
  · have h2 : k2 = rows.length := by omega
    rw [if_pos h1, if_pos h2]
    exact .inr ⟨rfl, by dsimp only; omega⟩
  · rw [if_neg h1]
    have h3 := a3 (by omega)
    by_cases h2 : k2 = rows.length
    · rw [if_pos h2]
      by_cases h4 : k1 = rows.length - 1
      · have h5 : k1 + 1 = rows.length := by omega
        rw [h5] at h3
        refine .inr ⟨by dsimp only; omega, ?_⟩
        dsimp only
        rw [h4]
        omega
      · exact .inl (by dsimp only; omega)
    · rw [if_neg h2]
      by_cases h4 : k1 = k2
      · subst h4
        exact .inr ⟨rfl, by dsimp only; omega⟩
      · exact .inl (by dsimp only; omega)
theorem placeR_row {rows : List RowL} (o : Int) (h0 : 1 ≤ rows.length) : 0 ≤ (placeR rows o).row ∧ (placeR rows o).row < (rows.length : Int) := by
  obtain ⟨a1, a2, a3⟩ := findK_is rows (max 0 o)
  rw [placeR, if_neg (by omega)]
  split <;> (dsimp only; omega)
theorem chainL_app {rows : List RowL} : ∀ (L M : List (Int × Int)) (a b c : Nat), chainL rows a L b → chainL rows b M c → chainL rows a (L ++ M) c
  | [], M, a, b, c, h1, h2 => by
    have h1 : a = b := h1
    subst h1
    exact h2
  | p :: L, M, a, b, c, h1, h2 => by
    obtain ⟨e, g1, g2, g3, g4, g5⟩ := h1
    exact ⟨e, g1, g2, g3, g4, chainL_app L M e b c g5 h2⟩
theorem outF_app (rows : List RowL) (cols : Nat) (L M : List (Int × Int)) : (outF rows cols (L ++ M)).length = (outF rows cols L).length + (outF rows cols M).length := by
  simp [outF]
theorem outF_cons (rows : List RowL) (cols : Nat) (ln : Int × Int) (M : List (Int × Int)) : (outF rows cols (ln :: M)).length = (segF rows cols ln).length + (outF rows cols M).length := by
  simp [outF]
theorem posF_order (rows : List RowL) (cols : Nat) {p q : PosV} (h : leP p q) : leP (posF rows cols p) (posF rows cols q) := by
  have hpq : p.row ≤ q.row := by rcases h with h | h <;> omega
  by_cases hp : (rows.length : Int) ≤ p.row ∨ rows.length = 0
  · rw [posF, if_pos hp, posF, if_pos (by omega)]
    exact .inr ⟨rfl, Int.le_refl _⟩
  · obtain ⟨r, hr⟩ : ∃ r : Nat, rowP p = r := ⟨(rowP p).toNat, by unfold rowP; omega⟩
    have hrn : r < rows.length := by unfold rowP at hr; omega
    obtain ⟨L1, a, e, L2, hL, hc1, ha, he, hen, hg, hce, hc2⟩ := find_line _ 0 r (linesL_chain rows rows.length) (by omega) hrn
    have hpp := posF_line (cols := cols) hL hc1 hc2 hr ha he hen
    have hsl : 1 ≤ (segF rows cols ((a : Int), (e : Int))).length := (splitF_cont _ _).1
    have hrow := placeR_row (offR (segOld rows ((a : Int), (e : Int))) ⟨rowP p - (a : Int), colP p⟩) hsl
    rw [hpp, newPos]
    by_cases hq : (rows.length : Int) ≤ q.row ∨ rows.length = 0
    · rw [posF, if_pos hq]
      left
      dsimp only
      have := outF_app rows cols L1 (((a : Int), (e : Int)) :: L2)
      have h2 := outF_cons rows cols ((a : Int), (e : Int)) L2
      rw [← hL] at this
      omega
    · obtain ⟨s, hs⟩ : ∃ s : Nat, rowP q = s := ⟨(rowP q).toNat, by unfold rowP; omega⟩
      have hsn : s < rows.length := by unfold rowP at hs; omega
      have hrs : r ≤ s := by unfold rowP at hr hs; omega
      by_cases hse : s < e
      · have hqq := posF_line (cols := cols) hL hc1 hc2 hs (by omega) hse hen
        rw [hqq, newPos]
        have hoff : offR (segOld rows ((a : Int), (e : Int))) ⟨rowP p - (a : Int), colP p⟩ ≤ offR (segOld rows ((a : Int), (e : Int))) ⟨rowP q - (a : Int), colP q⟩ := by
          refine offR_mono ?_
          dsimp only
          unfold rowP colP
          rcases h with h | ⟨h1, h2⟩
          · by_cases hq0 : q.row ≤ 0
            · right
              rw [if_pos (by omega)]
              constructor <;> omega
            · left; omega
          · right
            rw [h1]
            split <;> omega
        rcases placeR_mono (rows := segF rows cols ((a : Int), (e : Int))) hoff with h | ⟨h1, h2⟩
        · left; dsimp only; omega
        · right; exact ⟨by dsimp only; omega, h2⟩
      · obtain ⟨M1, a', e', M2, hM, hd1, ha', he', hen', _, _, hd2⟩ := find_line _ e s hc2 (by omega) hsn
        have hL' : linesL rows rows.length = (L1 ++ ((a : Int), (e : Int)) :: M1) ++ ((a' : Int), (e' : Int)) :: M2 := by rw [hL, hM]; simp
        have hqq := posF_line (cols := cols) hL' (chainL_app _ _ _ _ _ hc1 ⟨e, rfl, by omega, hg, hce (by omega), hd1⟩) hd2 hs ha' he' hen'
        have hsl' : 1 ≤ (segF rows cols ((a' : Int), (e' : Int))).length := (splitF_cont _ _).1
        have hrow' := placeR_row (offR (segOld rows ((a' : Int), (e' : Int))) ⟨rowP q - (a' : Int), colP q⟩) hsl'
        rw [hqq, newPos]
        left
        dsimp only
        rw [outF_app, outF_cons]
        omega
end Go.Proofs.Ytmdmdlfdijdhgaa.Mq
