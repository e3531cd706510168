/- bytes of a string, converted: the new row (a chunk of its own kind: the row bears a mark behind its bytes); loads, stores, back -/
import Derived.Test.YtjmmikdbhhomiaaBits
import Derived.Test.YtjmmikdbhhomiaaTypes
import Derived.Lib.ConvBytes
import Derived.Lib.AtoiErrMem
import Derived.Laws.AppendOwn
namespace Go.Proofs.Ytjmmikdbhhomiaa.Mq
open Go Go.RowKit Go.Proofs

/-- a converted row: its first cells are xs, and are not frozen -/
def byt (g : Nat) (e : TypeId) (xs : List Value) : Chunk where
  foot := [g]
  pred w := ∃ cur fz, w.heap[g]? = some (.cells cur e fz) ∧ xs.length ≤ fz.1 ∧ cur.toList.take xs.length = xs
  low w h k hk := by
    simp only [List.mem_singleton] at hk
    subst hk
    obtain ⟨cur, fz, h1, _⟩ := h
    exact (Array.getElem?_eq_some_iff.1 h1).1
  loc w w' h hp := by
    obtain ⟨cur, fz, h1, h2⟩ := hp
    exact ⟨cur, fz, by rw [h g (by simp)]; exact h1, h2⟩
theorem take_get {cur xs : List Value} (h : cur.take xs.length = xs) {o : Nat} {v : Value} (hv : xs[o]? = some v) : cur[o]? = some v := by
  have hlt := (List.getElem?_eq_some_iff.1 hv).1
  rw [← h, List.getElem?_take] at hv
  rwa [if_pos hlt] at hv
section
variable {b : World} {S : List Nat} {cs : List Chunk} {w : World}
theorem SH.byt_cell (h : SH b S cs w) {g e : Nat} {xs : List Value} (hc : Has cs (byt g e xs)) {o : Nat} {v : Value} (hv : xs[o]? = some v) : w.cell? ⟨g, o, none⟩ = some v := by
  obtain ⟨cur, fz, h1, h2, h3⟩ := h.has hc
  rw [cell_of_row w g o cur e fz h1]
  have := take_get h3 hv
  rwa [Array.getElem?_toList] at this
theorem Rd.of_byt {α : Type} {E : Enc α} {L : List α} (h : SH b S cs w) {g e c : Nat} (hc : Has cs (byt g e (E.all L))) (h1 : L.length ≤ c) (h2 : c ≤ maxLen) : Rd E w (fun k => k = g) (some ⟨g, 0, none⟩) L.length c L := by
  refine ⟨rfl, h1, h2, fun _ => ⟨_, rfl, rfl, fun k a j u hk hj => ?_⟩⟩
  have := h.byt_cell hc (E.all_get hk hj)
  rw [Addr.add_lit, Addr.add_lit, Nat.zero_add]
  exact this
theorem SH.byt_new (h : SH b S cs w) (e : Nat) (s : List UInt8) : SH b S (byt w.heap.size e (EU8.all s) :: cs) (Lib.bytesWorld w e (bs s)) := by
  have hlen : (EU8.all s).length = s.length := by rw [EU8.all_length]; exact Nat.mul_one _
  refine h.add (Ext.of_below (Lib.bytesWorld_below w e (bs s))) ⟨_, _, Lib.bytesWorld_at_new w e (bs s), ?_, ?_⟩ (by simp [byt]) (by simp [byt])
  · show (EU8.all s).length ≤ (Lib.bytesCells w e (bs s)).size
    rw [hlen]
    simp [Lib.bytesCells]
  · rw [hlen]
    have e1 : EU8.all s = s.map (fun b => Value.int .u8 (b.toNat : Int)) := by
      unfold Enc.all EU8
      clear hlen
      induction s with
      | nil => rfl
      | cons c s ih => rw [List.flatMap_cons, ih, List.map_cons]; rfl
    rw [e1]
    simp only [Lib.bytesCells, Array.toList_append, Array.toList_map]
    rw [List.take_left' (by simp)]
end
section
variable {P : Program} {n : Nat} {ops : Array Oper} {Q : Post} {rest : List Oper} {l : Fr} {d : Nat} {ty : TypeId} {pos : String} {af : Array Edge} {b : World} {S : List Nat} {cs : List Chunk}
theorem RW.strBytes {x : Operand} {src dst e : TypeId} {s : List UInt8} (hs : P.underlying src = some .string) (hdst : P.underlying dst = some (.slice e)) (he : P.underlying e = some (.int .u8)) (hd : Nat.blt d n = true) (hx : ev l x = some (.string (bs s))) (hl : s.length ≤ 1000000)
    (h : ∀ g c, b.heap.size ≤ g → (∀ k ∈ feet cs, k < g) → s.length ≤ c → c ≤ maxLen → RW P n ops Q rest ((d, .slice (some ⟨g, 0, none⟩) s.length c) :: l) (SH b S (byt g e (EU8.all s) :: cs))) :
    RW P n ops Q (⟨some d, .convert src dst x, ty, pos, af, none⟩ :: rest) l (SH b S cs) := by
  refine RW.step hd fun ρ w hρ hw => ?_
  have hz : (bs s).size = s.length := bs_size s
  refine ⟨.slice (some ⟨w.heap.size, 0, none⟩) s.length (grownCap w s.length 0 e), Lib.bytesWorld w e (bs s), ?_, (h w.heap.size _ hw.ext.size (fun k hk => hw.lt hk) (grownCap_ge _ _ _ _) (grownCap_le_maxLen _ _ _ _ (by simp only [maxLen]; omega))).at (hw.byt_new e s)⟩
  simp only [execOp, hρ x _ hx]
  rw [Sem.run_bind, Lib.run_convert_string_bytes w src dst e (bs s) hs hdst he, hz]
  rfl
theorem RW.storeByt {x y : Operand} {t : Nat} {z v : Value} {p : Addr} {e g o : Nat} {xs : List Value} {cs' : List Chunk} (ht : ScT P t z) (hx : ev l x = some (.pointer (some p))) (hy : ev l y = some v) (hu : Upd cs (byt g e xs) (byt g e (xs.set o v)) cs') (hp : p = ⟨g, o, none⟩)
    (h1 : v.oneCell' = true) (hl : o < xs.length)
    (h : RW P n ops Q rest l (SH b S cs')) : RW P n ops Q (⟨none, .store t x y, ty, pos, af, none⟩ :: rest) l (SH b S cs) := by
  subst hp
  obtain ⟨i, h3, _, h4⟩ := ht.inf
  refine RW.step0 fun ρ w hρ hw => ?_
  obtain ⟨cur, fz, hg, hfz, hcur⟩ : (byt g e xs).pred w := by
    obtain ⟨l, r, rfl, _⟩ := hu.split
    exact hw.all _ (by simp)
  have hc : w.cell? ⟨g, o, none⟩ = some (xs[o]'hl) := by
    rw [cell_of_row w g o cur e fz hg]
    have := take_get hcur (List.getElem?_eq_getElem hl)
    rwa [Array.getElem?_toList] at this
  have hf : w.frozen? ⟨g, o, none⟩ = false := by
    obtain ⟨lo, hi⟩ := fz
    simp only [World.frozen?, hg]
    have : ¬ lo ≤ o := by omega
    simp [this]
  have hst := run_store P w ⟨g, o, none⟩ v .plain h1
  refine ⟨w.setCell ⟨g, o, none⟩ v, ?_, h.at (hw.upd hu (Ext.setCell w ⟨g, o, none⟩ v) ⟨cur.setIfInBounds o v, fz, ?_, ?_, ?_⟩ (by simp [byt]) (by simp [byt]))⟩
  · have hadd : (⟨g, o, none⟩ : Addr).add 0 = ⟨g, o, none⟩ := Addr.add_lit g o 0
    have hrun : (storeCells (⟨g, o, none⟩ : Addr) [v] 0).run P w = .ok () (w.setCell ⟨g, o, none⟩ v) := by
      simp only [storeCells, hadd, Sem.run_bind, hst, hc, hf]
      simp
    simp [execOp, Instr.storeAt, hρ x _ hx, hρ y _ hy, Instr.sureAddr, storeVar, run_sizeOf h3, h4, oneCell_cells h1, hrun]
  · simp [World.setCell, Array.getElem?_modify, hg]
  · simpa using hfz
  · rw [List.length_set]
    show (cur.setIfInBounds o v).toList.take xs.length = xs.set o v
    rw [Array.toList_setIfInBounds, List.take_set, hcur]
end
end Go.Proofs.Ytjmmikdbhhomiaa.Mq
