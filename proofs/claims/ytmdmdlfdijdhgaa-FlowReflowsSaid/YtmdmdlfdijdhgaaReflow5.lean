/- what the reference's Reflow keeps of each row; places are the same -/
import Derived.Test.YtmdmdlfdijdhgaaReflow4
import Derived.Test.YtmdmdlfdijdhgaaRef3
namespace Go.Proofs.Ytmdmdlfdijdhgaa.Mq
open Go Go.RowKit Go.Proofs

def begF (rows : List RowL) (cols : Nat) : List (Int × Int) → Nat → List Int
  | [], _ => []
  | ln :: L, base => List.replicate (ln.2 - ln.1).toNat (base : Int) ++ begF rows cols L (base + (segF rows cols ln).length)
def endF (rows : List RowL) (cols : Nat) : List (Int × Int) → Nat → List Int
  | [], _ => []
  | ln :: L, base => List.replicate (ln.2 - ln.1).toNat ((base : Int) + ((segF rows cols ln).length : Int)) ++ endF rows cols L (base + (segF rows cols ln).length)
theorem begF_app (rows : List RowL) (cols : Nat) (M : List (Int × Int)) : ∀ (L : List (Int × Int)) (base : Nat), begF rows cols (L ++ M) base = begF rows cols L base ++ begF rows cols M (base + (outF rows cols L).length)
  | [], base => by simp [begF, outF]
  | x :: L, base => by
    have h : (outF rows cols (x :: L)).length = (segF rows cols x).length + (outF rows cols L).length := by simp [outF]
    rw [List.cons_append, begF, begF, begF_app rows cols M L, List.append_assoc, h, Nat.add_assoc]
theorem endF_app (rows : List RowL) (cols : Nat) (M : List (Int × Int)) : ∀ (L : List (Int × Int)) (base : Nat), endF rows cols (L ++ M) base = endF rows cols L base ++ endF rows cols M (base + (outF rows cols L).length)
  | [], base => by simp [endF, outF]
  | x :: L, base => by
    have h : (outF rows cols (x :: L)).length = (segF rows cols x).length + (outF rows cols L).length := by simp [outF]
    rw [List.cons_append, endF, endF, endF_app rows cols M L, List.append_assoc, h, Nat.add_assoc]
theorem begF_len {rows : List RowL} {cols : Nat} : ∀ (M : List (Int × Int)) (a b base : Nat), chainL rows a M b → (begF rows cols M base).length = b - a ∧ (endF rows cols M base).length = b - a
  | [], a, b, base, h => by
    have h : a = b := h
    subst h
    simp [begF, endF]
  | p :: M, a, b, base, h => by
    obtain ⟨e, rfl, h2, _, _, h5⟩ := h
    have ih := begF_len (cols := cols) M e b (base + (segF rows cols ((a : Int), (e : Int))).length) h5
    have hle := chain_le M e b h5
    rw [begF, endF, List.length_append, List.length_append, List.length_replicate, List.length_replicate, ih.1, ih.2]
    dsimp only
    omega
/-- the line that a row is in -/
theorem find_line {rows : List RowL} {n : Nat} : ∀ (L : List (Int × Int)) (a0 r : Nat), chainE rows n a0 L → a0 ≤ r → r < n →
    ∃ (L1 : List (Int × Int)) (a e : Nat) (L2 : List (Int × Int)), L = L1 ++ ((a : Int), (e : Int)) :: L2 ∧ chainL rows a0 L1 a ∧ a ≤ r ∧ r < e ∧ e ≤ n ∧ good rows a e ∧ (e < n → contAt rows e = false) ∧ chainE rows n e L2
  | [], a0, r, h, h1, h2 => by
    rcases h with ⟨_, h⟩ | ⟨M, s, h, _⟩
    · omega
    · simp at h
  | p :: L, a0, r, h, h1, h2 => by
    obtain ⟨e, rfl, h3, h4, h5, h6, h7⟩ := chainE_step h
    by_cases hre : r < e
    · exact ⟨[], a0, e, L, rfl, rfl, h1, hre, h4, h5, h6, h7⟩
    · obtain ⟨L1, a, e', L2, g1, g2, g3, g4, g5, g6, g7, g8⟩ := find_line L e r h7 (by omega) h2
      have hce : contAt rows e = false := h6 (by omega)
      exact ⟨((a0 : Int), (e : Int)) :: L1, a, e', L2, by rw [g1]; rfl, ⟨e, rfl, h3, h5, hce, g2⟩, g3, g4, g5, g6, g7, g8⟩
theorem stF_skip {rows : List RowL} {cols : Nat} {p : PosV} : ∀ (L : List (Int × Int)) (base : Nat) (acc : PosV), (∀ ln ∈ L, ¬ (ln.1 ≤ rowP p ∧ rowP p < ln.2)) → stF rows cols p L base acc = acc
  | [], _, _, _ => rfl
  | x :: L, base, acc, h => by
    rw [stF, updP, if_neg (h x (by simp)), stF_skip L _ _ (fun ln hln => h ln (by simp [hln]))]
theorem chainL_mem {rows : List RowL} : ∀ (M : List (Int × Int)) (a b : Nat), chainL rows a M b → ∀ ln ∈ M, (a : Int) ≤ ln.1 ∧ ln.2 ≤ (b : Int)
  | [], _, _, _, ln, h => by simp at h
  | p :: M, a, b, h, ln, hln => by
    obtain ⟨e, rfl, h2, _, _, h5⟩ := h
    have hle := chain_le M e b h5
    rcases List.mem_cons.1 hln with rfl | h
    · dsimp only; omega
    · have := chainL_mem M e b h5 ln h
      omega
theorem chainE_mem {rows : List RowL} {n a : Nat} {L : List (Int × Int)} (h : chainE rows n a L) : ∀ ln ∈ L, (a : Int) ≤ ln.1 := by
  rcases h with ⟨h, _⟩ | ⟨M, s, h1, h2, h3, h4⟩
  · subst h; simp
  · intro ln hln
    rw [h1] at hln
    have hle := chain_le M a s h4
    rcases List.mem_append.1 hln with h | h
    · exact (chainL_mem M a s h4 ln h).1
    · rw [List.mem_singleton.1 h]; dsimp only; omega
theorem posF_line {rows : List RowL} {cols : Nat} {p : PosV} {L1 L2 : List (Int × Int)} {a e r : Nat} (hL : linesL rows rows.length = L1 ++ ((a : Int), (e : Int)) :: L2) (h1 : chainL rows 0 L1 a) (h2 : chainE rows rows.length e L2)
    (hr : rowP p = (r : Int)) (ha : a ≤ r) (he : r < e) (hen : e ≤ rows.length) : posF rows cols p = newPos rows cols (outF rows cols L1).length ((a : Int), (e : Int)) p := by
  have hp : p.row ≤ rowP p := by unfold rowP; omega
  rw [posF, if_neg (by omega), hL]
  have hstep : ∀ (L : List (Int × Int)) (base : Nat) (acc : PosV) (M : List (Int × Int)), stF rows cols p (L ++ M) base acc = stF rows cols p M (base + (outF rows cols L).length) (stF rows cols p L base acc) := by
    intro L
    induction L with
    | nil => intro base acc M; simp [stF, outF]
    | cons x L ih =>
      intro base acc M
      have h : (outF rows cols (x :: L)).length = (segF rows cols x).length + (outF rows cols L).length := by simp [outF]
      rw [List.cons_append, stF, stF, ih, h, Nat.add_assoc]
  rw [hstep, stF_skip L1 0 p (fun ln hln => by have := (chainL_mem L1 0 a h1 ln hln).2; omega), stF, updP, if_pos (by dsimp only; omega), Nat.zero_add, stF_skip]
  intro ln hln
  have := chainE_mem h2 ln hln
  omega
end Go.Proofs.Ytmdmdlfdijdhgaa.Mq
