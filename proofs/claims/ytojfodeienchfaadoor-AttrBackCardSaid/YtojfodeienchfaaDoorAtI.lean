/- attributes: the plain laws: what turns a right one keeps it right; the numbers of one turn any other to it -/
import Derived.Test.YtojfodeienchfaaDoorAtH
namespace Go.Proofs.YtojfodeienchfaaDoor.Mq
open Go Go.RowKit Go.Proofs

def okFl (n : Nat) : Bool := decide (n < 1024) && !(hasF n 8 && hasF n 256)
theorem rightF_ok (fk fn bk bn : Int) (fl : Nat) : rightF ⟨fk, fn, bk, bn, (fl : Int)⟩ = (colF fk fn && (colF bk bn && okFl fl)) := by
  unfold rightF okFl
  dsimp only
  refine congrArg (fun x => colF fk fn && (colF bk bn && x)) ?_
  rw [Int.toNat_natCast]
  by_cases h : fl < 1024
  · rw [decide_eq_true h, Bool.true_and]
    cases h8 : hasF fl 8 <;> cases h9 : hasF fl 256 <;> simp <;> omega
  · rw [decide_eq_false h, Bool.false_and, decide_eq_false_iff_not]
    omega
def specials : List Int := [1, 2, 3, 5, 6, 7, 8, 9, 53, 21, 22, 23, 24, 25, 27, 28, 29, 55]
theorem keep_sp : ∀ v ∈ specials, ∀ n, n < 1024 → okFl n = true → okFl (simpFl v n) = true := by decide +kernel
theorem keep_4 : ∀ x ∈ [0, 8, 256], ∀ n, n < 1024 → okFl n = true → okFl (clrF n 264 ||| x) = true := by decide +kernel
theorem okFl_lt {n : Nat} (h : okFl n = true) : n < 1024 := by
  simp only [okFl, Bool.and_eq_true, decide_eq_true_eq] at h
  exact h.1
theorem keep_simp (v : Int) {n : Nat} (h : okFl n = true) : okFl (simpFl v n) = true := by
  by_cases hv : v ∈ specials
  · exact keep_sp v hv n (okFl_lt h) h
  · simp only [specials, List.mem_cons, List.not_mem_nil, or_false, not_or] at hv
    rw [fl_no (v := v) (okFl_lt h) (by omega)]
    exact h
theorem keep_line (g : List Int) {n : Nat} (h : okFl n = true) : okFl (clrF n 264 ||| lineF g) = true := by
  refine keep_4 _ ?_ n (okFl_lt h) h
  unfold lineF
  split
  · simp
  · split <;> simp
theorem colF_1 {n : Int} (h : 0 ≤ n ∧ n < 256) : colF 1 n = true := by unfold colF; exact decide_eq_true (by omega)
theorem colF_2 {n : Int} (h : 0 ≤ n ∧ n < 16777216) : colF 2 n = true := by unfold colF; exact decide_eq_true (by omega)
theorem colF_0 : colF 0 0 = true := by unfold colF; exact decide_eq_true (by omega)
theorem b3_col {L : List Int} (hl : L.length = 1 ∨ L.length = 3) {q : Int × Int} (h : b3 L = some q) : colF q.1 q.2 = true := by
  rcases hl with hl | hl
  · match L, hl with
    | [x], _ =>
      by_cases hx : x ≤ 255
      · rw [b3_1 hx] at h; cases h; exact colF_1 (by dsimp only; omega)
      · rw [b3_1n hx] at h; cases h
  · match L, hl with
    | [x, y, z], _ =>
      by_cases hx : x ≤ 255 ∧ y ≤ 255 ∧ z ≤ 255
      · rw [b3_3 hx.1 hx.2.1 hx.2.2] at h; cases h; exact colF_2 (by dsimp only; omega)
      · rw [b3_3n hx] at h; cases h
theorem colG_col {gs : List (List Int)} {i : Nat} {q : Int × Int} (h : (colG gs i).1 = some q) : colF q.1 q.2 = true := by
  unfold colG at h
  split at h
  · dsimp only at h
    unfold insF at h
    split at h
    · rename_i h1
      exact b3_col (.inl (by rw [List.length_drop]; omega)) h
    · split at h
      · rename_i h1
        exact b3_col (.inr (by rw [List.length_drop]; omega)) h
      · cases h
  · unfold behF at h
    split at h
    · cases h
    · split at h
      · cases h
      · rename_i h1 h2
        refine b3_col ?_ h
        rw [nextL_len]
        unfold needF at h2 ⊢
        split
        · exact .inl rfl
        · split
          · exact .inr rfl
          · rename_i h3 h4; rw [if_neg h3, if_neg h4] at h2; exact absurd rfl h2
theorem palK_col {v low high : Int} {k n : Int} (h : colF k n = true) (hh : 0 ≤ high) : colF (palK v low high (k, n)).1 (palK v low high (k, n)).2 = true := by
  unfold palK
  split
  · exact colF_1 (by dsimp only; omega)
  · split
    · exact colF_1 (by dsimp only; omega)
    · split
      · exact colF_0
      · exact h
theorem stepA_right {gs : List (List Int)} {i : Nat} {a : AtV} (h : rightF a = true) : rightF (stepA gs i a).1 = true := by
  obtain ⟨fk, fn, bk, bn, fli⟩ := a
  have h0 : 0 ≤ fli := by
    simp only [rightF, Bool.and_eq_true, decide_eq_true_eq] at h
    exact h.2.2.1
  obtain ⟨fl, rfl⟩ : ∃ m : Nat, fli = m := ⟨fli.toNat, by omega⟩
  rw [rightF_ok, Bool.and_eq_true, Bool.and_eq_true] at h
  obtain ⟨h1, h2, h3⟩ := h
  unfold stepA
  split
  · dsimp only
    rw [rightF_ok, h1, h2, Int.toNat_natCast, keep_line _ h3]; rfl
  · split
    · dsimp only
      unfold setCol
      cases hq : (colG gs i).1 with
      | none => dsimp only; rw [rightF_ok, h1, h2, h3]; rfl
      | some q =>
        obtain ⟨k, n⟩ := q
        have hc := colG_col hq
        dsimp only at hc ⊢
        split
        · rw [rightF_ok, hc, h2, h3]; rfl
        · rw [rightF_ok, h1, hc, h3]; rfl
    · dsimp only
      unfold simpleV
      split
      · decide +kernel
      · dsimp only
        rw [rightF_ok, palK_col h1 (by omega), palK_col h2 (by omega), Int.toNat_natCast, keep_simp _ h3]; rfl
theorem turnF_right {gs : List (List Int)} : ∀ (m i : Nat) (a : AtV), gs.length - i ≤ m → rightF a = true → rightF (turnF gs i a) = true
  | m, i, a, hm, h => by
    by_cases hi : i < gs.length
    · have hlt := stepA_lt gs i a
      cases m with
      | zero => omega
      | succ m =>
        rw [turnF_in hi (b := (stepA gs i a).1) (j := (stepA gs i a).2) rfl]
        exact turnF_right m _ _ (by omega) (stepA_right h)
    · rw [turnF_out (by omega)]; exact h
/- turning goes on from the groups that are left -/
theorem firstV_drop (gs : List (List Int)) (i k : Nat) : firstV (gs.drop i) k = firstV gs (i + k) := by
  unfold firstV; rw [List.getElem?_drop]
theorem colG_drop {gs : List (List Int)} {i : Nat} : colG (gs.drop i) 0 = colG gs i := by
  have e : (gs.drop i).getD 0 [] = gs.getD i [] := by rw [List.getD_eq_getElem?_getD, List.getD_eq_getElem?_getD, List.getElem?_drop]; rfl
  have n : needF (gs.drop i) 0 = needF gs i := by unfold needF; rw [firstV_drop]
  have x : ∀ m, nextL (gs.drop i) 0 m = nextL gs i m := fun m => by
    unfold nextL
    refine List.map_congr_left fun k _ => ?_
    rw [firstV_drop]; congr 1; omega
  unfold colG
  rw [e]
  split
  · rfl
  · unfold behF
    rw [n, x, List.length_drop]
    by_cases h : gs.length ≤ i + 1 + needF gs i
    · rw [if_pos (by omega), if_pos h]; congr 1; omega
    · rw [if_neg (by omega), if_neg h]
theorem stepA_drop {gs : List (List Int)} {i : Nat} {a : AtV} : stepA gs i a = ((stepA (gs.drop i) 0 a).1, i + (stepA (gs.drop i) 0 a).2) := by
  have e : (gs.drop i).getD 0 [] = gs.getD i [] := by rw [List.getD_eq_getElem?_getD, List.getD_eq_getElem?_getD, List.getElem?_drop]; rfl
  have f : firstV (gs.drop i) 0 = firstV gs i := firstV_drop gs i 0
  unfold stepA
  rw [e, f, colG_drop]
  split
  · rfl
  · split
    · dsimp only; congr 1; omega
    · rfl
theorem turnF_drop : ∀ (m : Nat) (gs : List (List Int)) (i : Nat) (a : AtV), gs.length - i ≤ m → turnF gs i a = turnF (gs.drop i) 0 a
  | m, gs, i, a, hm => by
    by_cases hi : i < gs.length
    · cases m with
      | zero => omega
      | succ m =>
        have hs := stepA_lt (gs.drop i) 0 a
        rw [turnF_in hi stepA_drop, turnF_in (gs := gs.drop i) (i := 0) (by rw [List.length_drop]; omega) (b := (stepA (gs.drop i) 0 a).1) (j := (stepA (gs.drop i) 0 a).2) rfl,
          turnF_drop m gs _ _ (by omega), turnF_drop m (gs.drop i) _ _ (by rw [List.length_drop]; omega), List.drop_drop]
    · rw [turnF_out (by omega), turnF_out (by rw [List.length_drop]; omega)]
theorem turn_cons {gs : List (List Int)} {a b : AtV} {j : Nat} (h0 : gs ≠ []) (h : stepA gs 0 a = (b, j)) : turnF gs 0 a = turnF (gs.drop j) 0 b := by
  rw [turnF_in (List.length_pos_iff.2 h0) h, turnF_drop _ _ _ _ (Nat.le_refl _)]
def single (l : List Int) : List (List Int) := l.map (fun x => [x])
theorem firstV_single {x : Int} (h : 0 ≤ x) (r : List (List Int)) : firstV ([x] :: r) 0 = x := by
  show max 0 x = x; omega
theorem turn_zero (r : List (List Int)) (a : AtV) : turnF ([0] :: r) 0 a = turnF r 0 zeroA :=
  turn_cons (j := 1) (by simp) (by unfold stepA; rw [firstV_single (by omega), if_neg (by decide), if_neg (by decide), simpleV, if_pos rfl])
def flStep (n : Nat) (v : Int) : Nat := if v = 4 then clrF n 264 ||| 8 else simpFl v n
def flagVs : List Int := [1, 2, 3, 4, 5, 7, 8, 9, 21, 53]
theorem flStep_lt {n : Nat} (h : n < 1024) (v : Int) : flStep n v < 1024 := by
  unfold flStep
  split
  · exact setF_lt (Nat.lt_of_le_of_lt (clrF_le _ _) h) (by decide)
  · exact simpFl_lt v h
theorem flagVs_range : ∀ v ∈ flagVs, 0 < v ∧ v < 30 ∨ v = 53 := by decide
theorem turn_flag {v : Int} (hv : v ∈ flagVs) (r : List (List Int)) (n : Nat) : turnF ([v] :: r) 0 ⟨0, 0, 0, 0, (n : Int)⟩ = turnF r 0 ⟨0, 0, 0, 0, (flStep n v : Int)⟩ := by
  have hr := flagVs_range v hv
  refine turn_cons (j := 1) (by simp) ?_
  have hg : ([v] :: r).getD 0 [] = [v] := rfl
  rw [stepA_gen (by rw [firstV_single (by omega)]; omega) (by rw [firstV_single (by omega)]; omega) (by rw [firstV_single (by omega)]; omega), firstV_single (by omega)]
  have e1 : palK v 30 90 (0, 0) = (0, 0) := by unfold palK; rw [if_neg (by omega), if_neg (by omega), if_neg (by omega)]
  have e2 : palK v 40 100 (0, 0) = (0, 0) := by unfold palK; rw [if_neg (by omega), if_neg (by omega), if_neg (by omega)]
  rw [e1, e2, fl2, hg, flStep]
  rfl
theorem turn_flags : ∀ (l : List Int) (r : List (List Int)) (n : Nat), (∀ v ∈ l, v ∈ flagVs) → turnF (single l ++ r) 0 ⟨0, 0, 0, 0, (n : Int)⟩ = turnF r 0 ⟨0, 0, 0, 0, ((l.foldl flStep n : Nat) : Int)⟩
  | [], r, n, _ => rfl
  | v :: l, r, n, h => by
    show turnF ([v] :: (single l ++ r)) 0 _ = _
    rw [turn_flag (h v (by simp)), turn_flags l r _ (fun x hx => h x (by simp [hx]))]
    rfl
theorem flags_fold : ∀ fl, fl < 1024 → okFl fl = true → (flagsL fl 10).foldl flStep 0 = fl := by decide +kernel
theorem flags_mem (fl : Nat) : ∀ v ∈ flagsL fl 10, v ∈ flagVs := by
  have h : ∀ p ∈ flagN, (p.1 : Int) ∈ flagVs := by decide
  intro v hv
  obtain ⟨p, hp, rfl⟩ := List.mem_map.1 hv
  exact h p (List.mem_of_mem_take (List.mem_filter.1 hp).1)
theorem turn_paint {k n p : Int} (hp : p = 38 ∨ p = 48) (hc : colF k n = true) (hk : k ≠ 0) (r : List (List Int)) (a : AtV) : turnF (single (paintL k n p) ++ r) 0 a = turnF r 0 (setCol p (some (k, n)) a) := by
  unfold colF at hc
  have hc := of_decide_eq_true hc
  have f0 : ∀ (r : List (List Int)), firstV ([p] :: r) 0 = p := fun r => firstV_single (by omega) r
  rcases hc with hc | hc | hc
  · exact absurd hc.1 hk
  · obtain ⟨rfl, hn1, hn2⟩ := hc
    rw [paintL, if_pos rfl]
    show turnF ([p] :: [5] :: [n] :: r) 0 a = _
    have e2 : firstV ([p] :: [5] :: [n] :: r) 2 = n := by show max 0 n = n; omega
    have hb : behF ([p] :: [5] :: [n] :: r) 0 = (some (1, n), 2) := by
      have hn : needF ([p] :: [5] :: [n] :: r) 0 = 1 := by unfold needF; rw [if_pos (by rfl)]
      unfold behF
      rw [hn, if_neg (by simp), if_neg (by decide), show nextL ([p] :: [5] :: [n] :: r) 0 1 = [firstV ([p] :: [5] :: [n] :: r) 2] from rfl, e2, b3_1 (by omega), show max 0 n = n by omega]
    refine turn_cons (j := 3) (by simp) ?_
    unfold stepA
    rw [f0, if_neg (by omega), if_pos hp]
    unfold colG
    rw [if_neg (by simp), hb]
    rfl
  · obtain ⟨rfl, hn1, hn2⟩ := hc
    rw [paintL, if_neg (by decide), if_pos rfl]
    show turnF ([p] :: [2] :: [n / 65536] :: [n / 256 % 256] :: [n % 256] :: r) 0 a = _
    generalize hgs : ([p] :: [2] :: [n / 65536] :: [n / 256 % 256] :: [n % 256] :: r) = gs
    have e2 : firstV gs 2 = n / 65536 := by subst hgs; show max 0 (n / 65536) = _; omega
    have e3 : firstV gs 3 = n / 256 % 256 := by subst hgs; show max 0 (n / 256 % 256) = _; omega
    have e4 : firstV gs 4 = n % 256 := by subst hgs; show max 0 (n % 256) = _; omega
    have hb : behF gs 0 = (some (2, n), 4) := by
      have hn : needF gs 0 = 3 := by subst hgs; unfold needF; rw [show firstV ([p] :: [2] :: [n / 65536] :: [n / 256 % 256] :: [n % 256] :: r) (0 + 1) = 2 from rfl]; rfl
      unfold behF
      rw [hn, if_neg (by subst hgs; simp), if_neg (by decide), show nextL gs 0 3 = [firstV gs 2, firstV gs 3, firstV gs 4] from rfl, e2, e3, e4, b3_3 (by omega) (by omega) (by omega)]
      refine congrArg (fun x => (some ((2 : Int), x), 4)) ?_
      omega
    have hd : r = gs.drop 5 := by subst hgs; rfl
    rw [hd]
    refine turn_cons (j := 5) (by subst hgs; simp) ?_
    have f1 : firstV gs 0 = p := by subst hgs; exact f0 _
    unfold stepA
    rw [f1, if_neg (by omega), if_pos hp]
    unfold colG
    rw [if_neg (by subst hgs; simp), hb]
    rfl
theorem turn_paint0 {k n p : Int} (hp : p = 38 ∨ p = 48) (hc : colF k n = true) (r : List (List Int)) (a : AtV) (ha : setCol p (some (0, 0)) a = a) : turnF (single (paintL k n p) ++ r) 0 a = turnF r 0 (setCol p (some (k, n)) a) := by
  by_cases hk : k = 0
  · have hn : n = 0 := by unfold colF at hc; have hc := of_decide_eq_true hc; omega
    subst hk; subst hn
    rw [ha, paintL, if_neg (by decide), if_neg (by decide)]; rfl
  · exact turn_paint hp hc hk r a
theorem turn_text (a b : AtV) (hb : rightF b = true) : turnF (single (textL b)) 0 a = b := by
  obtain ⟨fk, fn, bk, bn, fli⟩ := b
  have h0 : 0 ≤ fli := by
    simp only [rightF, Bool.and_eq_true, decide_eq_true_eq] at hb
    exact hb.2.2.1
  obtain ⟨fl, rfl⟩ : ∃ m : Nat, fli = m := ⟨fli.toNat, by omega⟩
  rw [rightF_ok, Bool.and_eq_true, Bool.and_eq_true] at hb
  obtain ⟨h1, h2, h3⟩ := hb
  have e : single (textL ⟨fk, fn, bk, bn, (fl : Int)⟩) = [0] :: (single (flagsL fl 10) ++ (single (paintL fk fn 38) ++ (single (paintL bk bn 48) ++ []))) := by
    simp [single, textL]
  rw [e, turn_zero, show zeroA = ⟨0, 0, 0, 0, ((0 : Nat) : Int)⟩ from rfl, turn_flags _ _ _ (flags_mem fl), flags_fold fl (okFl_lt h3) h3,
    turn_paint0 (.inl rfl) h1 _ _ (by simp [setCol]), turn_paint0 (.inr rfl) h2 _ _ (by simp [setCol]), turnF_out (by simp)]
  simp [setCol]
end Go.Proofs.YtojfodeienchfaaDoor.Mq
