/- strings.Join by the shelf's contract; numbers with a separator between -/
import Derived.Test.YtnkdabjahmjdoaaDoorDig
import Derived.Test.YtnkdabjahmjdoaaDoorTwo
import Derived.Shelf.Strings.OnBuilder
namespace Go.Proofs.YtnkdabjahmjdoaaDoor.Mq
open Go Go.RowKit Go.Proofs

def lays156_ren : Shelf.Ren := ⟨fun | 156 => 29 | 165 => 54 | 166 => 48 | 169 => 50 | 240 => 60 | 241 => 66 | 276 => 75 | 277 => 81 | n => n, fun | 0 => 0 | 3 => 3 | 4 => 4 | 5 => 5 | 9 => 9 | 20 => 20 | 31 => 33 | 37 => 53 | 70 => 77 | 72 => 79 | 75 => 81 | 76 => 82 | 80 => 69 | 127 => 92 | 164 => 102 | n => n, fun n => n⟩
theorem lays156 : Lays.n156 Tryd.prog lays156_ren where
  mixed := by kernel_rfl
  f156 := Tryd.func29.trans (congrArg some (by kernel_rfl))
  f165 := Tryd.func54.trans (congrArg some (by kernel_rfl))
  f166 := Tryd.func48.trans (congrArg some (by kernel_rfl))
  f169 := Tryd.func50.trans (congrArg some (by kernel_rfl))
  f240 := Tryd.func60.trans (congrArg some (by kernel_rfl))
  f241 := Tryd.func66.trans (congrArg some (by kernel_rfl))
  f276 := Tryd.func75.trans (congrArg some (by kernel_rfl))
  f277 := Tryd.func81.trans (congrArg some (by kernel_rfl))
  t0 := Tryd.underlying0
  a0 := Tryd.isAgg0
  z0 := Tryd.sizeOf0
  v0 := Tryd.zeroValue0
  t3 := Tryd.underlying3
  a3 := Tryd.isAgg3
  z3 := Tryd.sizeOf3
  v3 := Tryd.zeroValue3
  t4 := Tryd.underlying4
  a4 := Tryd.isAgg4
  z4 := Tryd.sizeOf4
  v4 := Tryd.zeroValue4
  t9 := Tryd.underlying9
  a9 := Tryd.isAgg9
  z9 := Tryd.sizeOf9
  v9 := Tryd.zeroValue9
  t20 := Tryd.underlying20
  a20 := Tryd.isAgg20
  z20 := Tryd.sizeOf20
  v20 := Tryd.zeroValue20
  t31 := Tryd.underlying33
  a31 := Tryd.isAgg33
  z31 := Tryd.sizeOf33
  v31 := Tryd.zeroValue33
  t37 := Tryd.underlying53
  a37 := Tryd.isAgg53
  z37 := Tryd.sizeOf53
  v37 := Tryd.zeroValue53
  t70 := Tryd.underlying77
  a70 := Tryd.isAgg77
  z70 := Tryd.sizeOf77
  v70 := Tryd.zeroValue77
  t72 := Tryd.underlying79
  a72 := Tryd.isAgg79
  z72 := Tryd.sizeOf79
  v72 := Tryd.zeroValue79
  t75 := Tryd.underlying81
  a75 := Tryd.isAgg81
  z75 := Tryd.sizeOf81
  v75 := Tryd.zeroValue81
  t76 := Tryd.underlying82
  a76 := Tryd.isAgg82
  z76 := Tryd.sizeOf82
  v76 := Tryd.zeroValue82
  t127 := Tryd.underlying92
  a127 := Tryd.isAgg92
  z127 := Tryd.sizeOf92
  v127 := Tryd.zeroValue92
  t164 := Tryd.underlying102
  a164 := Tryd.isAgg102
  z164 := Tryd.sizeOf102
  v164 := Tryd.zeroValue102
theorem extra156 : Builder.Extra Tryd.prog lays156_ren where
  sizeBuilder := by kernel_rfl
  liesBuilder := by kernel_rfl
  t5 := Tryd.underlying5
  a5 := Tryd.isAgg5
  z5 := Tryd.sizeOf5
  v5 := Tryd.zeroValue5
  infoByte := by kernel_rfl
  cellsByte := by kernel_rfl
  sizeByte := by kernel_rfl
  neB5 := of_decide_eq_true (by kernel_rfl)
def EStr : Enc (List UInt8) := ⟨fun s => [.string (bs s)], 1, fun _ => rfl, fun _ => Ones.cons rfl Ones.nil⟩
theorem caJoin : CaT Tryd.prog 29 := CaT.of Tryd.func29 (by kernel_rfl) (by kernel_rfl)
theorem bs_list (s : List UInt8) : (bs s).data.toList = s := rfl
theorem join_c (w : World) (e m : Nat) (v : Value) (L : List (List UInt8)) (sep : List UInt8) (h : w.ownsRow 0 e 1 v m (EStr.all L)) (hm : L.length = m) (hN : m ≤ 1000000) (hlen : (Lib.join L sep).length ≤ 140737488355328) :
    Calls Tryd.prog 29 [v, .string (bs sep)].toArray w (fun e w' => e = .returned (.string (bs (Lib.join L sep))) ∧ Ext [] w w') := by
  rcases h.2 with ⟨rfl, h0⟩ | ⟨g, cap, cur, rfl, _, hg, hc1, hc2, hc3, hc4⟩
  · have hL : L = [] := List.eq_nil_of_length_eq_zero (hm.trans h0)
    subst hL
    refine (Any.strings_Join_none lays156 extra156 none 0 (bs sep) w).mono fun e w' ⟨h1, h2⟩ => ⟨?_, h2 ▸ Ext.refl _ _⟩
    rw [h1]
    rfl
  · have hmap : (L.map bs).map (fun x : ByteArray => x.data.toList) = L := by
      rw [List.map_map]
      conv => rhs; rw [← List.map_id L]
      exact List.map_congr_left fun s _ => rfl
    have hc := Any.strings_Join lays156 extra156 g 0 cap (L.map bs) (bs sep) w (fun j x hx => by
        rw [List.getElem?_map] at hx
        cases hj : L[j]? with
        | none => rw [hj] at hx; simp at hx
        | some s =>
          rw [hj] at hx
          simp only [Option.map_some, Option.some.injEq] at hx
          subst hx
          have hu := EStr.all_get (j := 0) (u := .string (bs s)) hj rfl
          have h2 : (EStr.all L)[j]? = some (.string (bs s)) := by simpa [EStr] using hu
          have h3 := h.cells (g := g) rfl j _ h2
          rwa [Addr.add_lit] at h3)
      (Array.getElem?_eq_some_iff.1 hg).1 (by simp; omega) (by simp; omega) (by rw [hmap]; exact hlen)
    rw [hmap, List.length_map, hm] at hc
    exact hc.mono fun e w' ⟨h1, h2⟩ => ⟨h1, Ext.of_below h2⟩
/-- numbers, with ; between -/
def numsT (l : List Int) : List UInt8 := Lib.join (l.map Lib.itoa) [59]
theorem join_le (sep : List UInt8) (k : Nat) : ∀ (L : List (List UInt8)), (∀ s ∈ L, s.length ≤ k) → (Lib.join L sep).length ≤ L.length * (k + sep.length)
  | [], _ => by simp [Lib.join_nil]
  | x :: r, h => by
    rw [Lib.join_cons, List.length_append]
    have h1 := h x (by simp)
    have key : ∀ (r : List (List UInt8)), (∀ s ∈ r, s.length ≤ k) → (Lib.joinTail sep r).length ≤ r.length * (k + sep.length) := by
      intro r
      induction r with
      | nil => intro _; simp [Lib.joinTail]
      | cons y r ih =>
        intro h
        have h2 := ih (fun s hs => h s (by simp [hs]))
        have h3 := h y (by simp)
        unfold Lib.joinTail at h2 ⊢
        rw [List.map_cons, List.flatten_cons, List.length_append, List.length_append, List.length_cons, Nat.add_one_mul]
        omega
    have h2 := key r (fun s hs => h s (by simp [hs]))
    rw [List.length_cons, Nat.add_one_mul]
    omega
theorem numsT_len (l : List Int) (h : ∀ x ∈ l, -9223372036854775808 ≤ x ∧ x ≤ 9223372036854775807) : (numsT l).length ≤ l.length * 22 := by
  have := join_le [59] 21 (l.map Lib.itoa) (fun s hs => by
    obtain ⟨x, hx, rfl⟩ := List.mem_map.1 hs
    exact Lib.itoa_length_le x (h x hx).1 (h x hx).2)
  simpa [numsT] using this
end Go.Proofs.YtnkdabjahmjdoaaDoor.Mq
