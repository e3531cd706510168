/- the text of clean groups: the plain law -/
import Derived.Test.YtjplfonmdjnplaaDoorPm8s
import Derived.Test.YtjplfonmdjnplaaDoorJoin
namespace Go.Proofs.YtjplfonmdjnplaaDoor.Mq
open Go Go.RowKit Go.Proofs

/-- the text of a number that may be; none of one that is not there -/
def numT (n : Int) : List UInt8 := if n = -1 then [] else Lib.itoa n
def groupT (g : List Int) : List UInt8 := Lib.join (g.map numT) [58]
def textT (gs : List (List Int)) : List UInt8 := Lib.join (gs.map groupT) [59]
theorem join_two (x y : List UInt8) (r : List (List UInt8)) (s : UInt8) : Lib.join (x :: y :: r) [s] = x ++ s :: Lib.join (y :: r) [s] := by
  rw [Lib.join_cons, Lib.join_cons]
  simp [Lib.joinTail]
theorem parts_join (s : UInt8) : ∀ (m : Nat) (L : List (List UInt8)), L ≠ [] → L.length ≤ m → (∀ x ∈ L, s ∉ x) → partsL s m (Lib.join L [s]) = L
  | 0, L, h, hl, _ => by simp at hl; exact absurd hl h
  | m + 1, [], h, _, _ => absurd rfl h
  | m + 1, [x], _, _, hs => by rw [Lib.join_one, partsL_out (hs x (by simp))]
  | m + 1, x :: y :: r, _, hl, hs => by
    rw [join_two, partsL_in (hs x (by simp)), parts_join s m (y :: r) (by simp) (by simpa using hl) (fun z hz => hs z (by simp [hz]))]
theorem mem_join {s : UInt8} : ∀ {L : List (List UInt8)} {c : UInt8}, c ∈ Lib.join L [s] → c = s ∨ ∃ x ∈ L, c ∈ x
  | [], c, h => by simp [Lib.join_nil] at h
  | [x], c, h => by rw [Lib.join_one] at h; exact .inr ⟨x, by simp, h⟩
  | x :: y :: r, c, h => by
    rw [join_two] at h
    rcases List.mem_append.1 h with h | h
    · exact .inr ⟨x, by simp, h⟩
    · rcases List.mem_cons.1 h with h | h
      · exact .inl h
      · rcases mem_join h with h | ⟨z, hz, h⟩
        · exact .inl h
        · exact .inr ⟨z, by simp [hz], h⟩
/-- a clean number -/
def CleanN (n : Int) : Prop := -1 ≤ n ∧ n ≤ 65535
theorem numT_digit {n : Int} (h : CleanN n) : ∀ c ∈ numT n, 48 ≤ c.toNat ∧ c.toNat ≤ 57 := by
  intro c hc
  unfold numT at hc
  split at hc
  · simp at hc
  · obtain ⟨u, rfl⟩ : ∃ u : Nat, n = (u : Int) := ⟨n.toNat, by have := h.1; omega⟩
    rw [Lib.itoa_nonneg] at hc
    exact dec_digit u c hc
theorem valStep_digit {n : Int} {c : UInt8} (h : 48 ≤ c.toNat ∧ c.toNat ≤ 57) : valStep n c = min (n * 10 + ((c.toNat : Int) - 48)) 65535 := by
  unfold valStep
  rw [wrapN8 (by omega) (by omega)]
theorem fold_dec : ∀ (u : Nat), u ≤ 65535 → (Lib.decDigits u).foldl valStep 0 = (u : Int) := by
  intro u
  induction u using Nat.strongRecOn with
  | _ u ih =>
    intro hu
    by_cases h : u < 10
    · rw [dec_small h]
      have hc : (UInt8.ofNat (48 + u)).toNat = 48 + u := by rw [UInt8.toNat_ofNat']; omega
      simp only [List.foldl_cons, List.foldl_nil]
      rw [valStep_digit (by rw [hc]; omega), hc]
      omega
    · rw [dec_big h, List.foldl_append, ih (u / 10) (by omega) (by omega)]
      have hc : (UInt8.ofNat (48 + u % 10)).toNat = 48 + u % 10 := by rw [UInt8.toNat_ofNat']; omega
      simp only [List.foldl_cons, List.foldl_nil]
      rw [valStep_digit (by rw [hc]; omega), hc]
      omega
theorem val_num {n : Int} (h : CleanN n) : valF (numT n) = n := by
  unfold numT
  split
  · rename_i h1; rw [h1]; rfl
  · rename_i h1
    obtain ⟨u, rfl⟩ : ∃ u : Nat, n = (u : Int) := ⟨n.toNat, by have := h.1; omega⟩
    rw [Lib.itoa_nonneg, valF, if_neg (dec_ne u), fold_dec u (by have := h.2; omega)]
theorem groupF_T {g : List Int} (h0 : g ≠ []) (hl : g.length ≤ 8) (hc : ∀ n ∈ g, CleanN n) : groupF (groupT g) = g := by
  unfold groupF groupT
  rw [parts_join 58 8 (g.map numT) (by simpa using h0) (by simpa using hl) (fun x hx => by
    obtain ⟨n, hn, rfl⟩ := List.mem_map.1 hx
    intro hm
    have := numT_digit (hc n hn) _ hm
    revert this; decide)]
  rw [List.map_map]
  conv => rhs; rw [← List.map_id g]
  exact List.map_congr_left fun n hn => val_num (hc n hn)
theorem groupT_mem {g : List Int} (hc : ∀ n ∈ g, CleanN n) : ∀ c ∈ groupT g, 48 ≤ c.toNat ∧ c.toNat ≤ 58 := by
  intro c h
  rcases mem_join h with rfl | ⟨x, hx, h⟩
  · decide
  · obtain ⟨n, hn, rfl⟩ := List.mem_map.1 hx
    have := numT_digit (hc n hn) c h
    omega
/-- groups that are clean -/
structure CleanGs (gs : List (List Int)) : Prop where
  ne : gs ≠ []
  len : gs.length ≤ 32
  each : ∀ g ∈ gs, g ≠ [] ∧ g.length ≤ 8 ∧ ∀ n ∈ g, CleanN n
theorem parse_text {gs : List (List Int)} (h : CleanGs gs) : parseF (textT gs) = gs := by
  unfold parseF textT
  rw [parts_join 59 32 (gs.map groupT) (by simpa using h.ne) (by simpa using h.len) (fun x hx => by
    obtain ⟨g, hg, rfl⟩ := List.mem_map.1 hx
    intro hm
    have := groupT_mem (h.each g hg).2.2 _ hm
    revert this; decide)]
  rw [List.map_map]
  conv => rhs; rw [← List.map_id gs]
  exact List.map_congr_left fun g hg => groupF_T (h.each g hg).1 (h.each g hg).2.1 (h.each g hg).2.2
theorem head_text {gs : List (List Int)} (h : CleanGs gs) : headB (textT gs) = true := by
  unfold headB
  rw [List.all_eq_true]
  intro c hc
  rcases mem_join hc with rfl | ⟨x, hx, hm⟩
  · decide
  · obtain ⟨g, hg, rfl⟩ := List.mem_map.1 hx
    have := groupT_mem (h.each g hg).2.2 c hm
    unfold inHead
    simp; omega
theorem numT_len {n : Int} (h : CleanN n) : (numT n).length ≤ 21 := by
  unfold numT
  split
  · simp
  · exact Lib.itoa_length_le n (by have := h.1; omega) (by have := h.2; omega)
theorem groupT_len {g : List Int} (hl : g.length ≤ 8) (hc : ∀ n ∈ g, CleanN n) : (groupT g).length ≤ 176 := by
  have := join_le [58] 21 (g.map numT) (fun s hs => by
    obtain ⟨x, hx, rfl⟩ := List.mem_map.1 hs
    exact numT_len (hc x hx))
  simp only [List.length_map, List.length_singleton] at this
  unfold groupT
  omega
theorem textT_len {gs : List (List Int)} (h : CleanGs gs) : (textT gs).length ≤ 5664 := by
  have := join_le [59] 176 (gs.map groupT) (fun s hs => by
    obtain ⟨x, hx, rfl⟩ := List.mem_map.1 hs
    exact groupT_len (h.each x hx).2.1 (h.each x hx).2.2)
  simp only [List.length_map, List.length_singleton] at this
  have := h.len
  unfold textT
  omega
theorem parseF_len (s : List UInt8) : (parseF s).length ≤ 32 := by
  rw [parseF, List.length_map]; exact partsL_length _ _ _
theorem groupF_len (p : List UInt8) : (groupF p).length ≤ 8 := by
  rw [groupF, List.length_map]; exact partsL_length _ _ _
theorem parseF_mem (s : List UInt8) : ∀ g ∈ parseF s, g.length ≤ 8 := by
  intro g hg
  obtain ⟨p, _, rfl⟩ := List.mem_map.1 hg
  exact groupF_len p
end Go.Proofs.YtjplfonmdjnplaaDoor.Mq
