/-
  WORLDS BY WHAT IS KNOWN OF THEM: blocks that the call owns ('chunks'), and a world that all else still is ('Ext').
-/
import Derived.Test.YtjmmikdbhhomiaaCore
namespace Go.Proofs.Ytjmmikdbhhomiaa.Mq
open Go Go.RowKit

structure Ext (S : List Nat) (w w' : World) : Prop where
  os : w'.os = w.os
  tape : w'.tape = w.tape
  output : w'.output = w.output
  size : w.heap.size ≤ w'.heap.size
  block : ∀ b, b < w.heap.size → b ∉ S → w'.heap[b]? = w.heap[b]?

theorem Ext.refl (S : List Nat) (w : World) : Ext S w w := ⟨rfl, rfl, rfl, Nat.le_refl _, fun _ _ _ => rfl⟩
theorem Ext.trans {S S' : List Nat} {a b c : World} (h : Ext S a b) (k : Ext S' b c) (hs : ∀ x ∈ S', x < a.heap.size → x ∈ S) : Ext S a c :=
  ⟨k.os.trans h.os, k.tape.trans h.tape, k.output.trans h.output, Nat.le_trans h.size k.size, fun x hx hn =>
    (k.block x (Nat.lt_of_lt_of_le hx h.size) fun hm => hn (hs x hm hx)).trans (h.block x hx hn)⟩
theorem Ext.trans0 {S : List Nat} {a b c : World} (h : Ext S a b) (k : Ext [] b c) : Ext S a c := h.trans k (by simp)
theorem Ext.mono {S S' : List Nat} {a b : World} (h : Ext S a b) (hs : ∀ x ∈ S, x < a.heap.size → x ∈ S') : Ext S' a b :=
  ⟨h.os, h.tape, h.output, h.size, fun x hx hn => h.block x hx fun hm => hn (hs x hm hx)⟩
theorem Ext.cell {S : List Nat} {w w' : World} (h : Ext S w w') {p : Addr} (hp : p.block < w.heap.size) (hn : p.block ∉ S) : w'.cell? p = w.cell? p :=
  World.cell?_of_block (w := w) (h.block p.block hp hn)
theorem Ext.frozen {S : List Nat} {w w' : World} (h : Ext S w w') {p : Addr} (hp : p.block < w.heap.size) (hn : p.block ∉ S) : w'.frozen? p = w.frozen? p :=
  World.frozen?_of_block (w := w) (h.block p.block hp hn)
theorem Ext.drew {S : List Nat} {w w' : World} (h : Ext S w w') : Ext S w w'.drew := ⟨h.os, h.tape, h.output, h.size, h.block⟩
theorem Ext.alloc (w : World) (o : Obj) (S : List Nat) : Ext S w (w.alloc o) := ⟨rfl, rfl, rfl, by simp, fun k hk _ => Below.heap_alloc _ _ _ hk⟩
theorem Ext.setCell (w : World) (p : Addr) (u : Value) : Ext [p.block] w (w.setCell p u) :=
  ⟨rfl, rfl, rfl, by simp, fun k _ hn => Below.heap_setCell _ _ _ _ (by simpa using hn)⟩
theorem Ext.below {w w' : World} (h : Ext [] w w') : Below w.heap.size w w' := ⟨h.os, h.tape, h.output, h.size, fun k hk => h.block k hk (by simp)⟩
theorem Ext.of_below {w w' : World} (h : Below w.heap.size w w') : Ext [] w w' := ⟨h.os, h.tape, h.output, h.size, fun k hk _ => h.block k hk⟩
theorem Ext.of_grown {w w' : World} {row : Option Nat} (h : w.grownBy w' row) : Ext row.toList w w' :=
  ⟨h.os, h.tape, h.output, h.size, fun k hk hn => h.block k hk (by cases row <;> simp_all)⟩

/- CHUNKS -/
structure Chunk where
  foot : List Nat
  pred : World → Prop
  low : ∀ w, pred w → ∀ b ∈ foot, b < w.heap.size
  loc : ∀ w w' : World, (∀ b ∈ foot, w'.heap[b]? = w.heap[b]?) → pred w → pred w'
def feet (cs : List Chunk) : List Nat := cs.flatMap (·.foot)
theorem feet_cons (c : Chunk) (cs : List Chunk) : feet (c :: cs) = c.foot ++ feet cs := rfl
theorem feet_nil : feet [] = [] := rfl

structure SH (b : World) (S : List Nat) (cs : List Chunk) (w : World) : Prop where
  ext : Ext S b w
  nodup : (feet cs).Nodup
  all : ∀ c ∈ cs, c.pred w
  cov : ∀ k ∈ feet cs, k < b.heap.size → k ∈ S

theorem mem_feet {cs : List Chunk} {k : Nat} : k ∈ feet cs ↔ ∃ c ∈ cs, k ∈ c.foot := by simp [feet]
theorem SH.lt {b : World} {S : List Nat} {cs : List Chunk} {w : World} (h : SH b S cs w) {k : Nat} (hk : k ∈ feet cs) : k < w.heap.size := by
  obtain ⟨c, hc, hkc⟩ := mem_feet.1 hk
  exact c.low w (h.all c hc) k hkc
theorem SH.start (w : World) : SH w [] [] w := ⟨Ext.refl _ _, by simp [feet], by simp, by simp [feet]⟩
theorem SH.start' (b w : World) (h : w = b) : SH b [] [] w := h ▸ SH.start b
theorem SH.rebase {b : World} {S : List Nat} {cs : List Chunk} {w : World} (h : SH b S cs w) : SH w (feet cs) cs w :=
  ⟨Ext.refl _ _, h.nodup, h.all, fun _ hk _ => hk⟩
theorem SH.unbase {b b1 : World} {S S1 : List Nat} {cs : List Chunk} {w : World} (h : SH b1 S1 cs w) (he : Ext S b b1) (hs : ∀ k ∈ S1, k < b.heap.size → k ∈ S) : SH b S cs w :=
  ⟨he.trans h.ext hs, h.nodup, h.all, fun k hk hlt => hs k (h.cov k hk (Nat.lt_of_lt_of_le hlt he.size)) hlt⟩
theorem SH.keep {b : World} {S : List Nat} {cs : List Chunk} {w w' : World} (h : SH b S cs w) (he : Ext [] w w') : SH b S cs w' :=
  ⟨h.ext.trans0 he, h.nodup, fun c hc => c.loc w w' (fun k hk => he.block k (c.low w (h.all c hc) k hk) (by simp)) (h.all c hc), h.cov⟩
theorem SH.add {b : World} {S : List Nat} {cs : List Chunk} {w w' : World} (h : SH b S cs w) (he : Ext [] w w') {c : Chunk} (hp : c.pred w') (hf : ∀ k ∈ c.foot, w.heap.size ≤ k) (hn : c.foot.Nodup) : SH b S (c :: cs) w' := by
  have h' := h.keep he
  refine ⟨h'.ext, ?_, ?_, ?_⟩
  · rw [feet_cons, List.nodup_append]
    refine ⟨hn, h.nodup, fun x hx y hy e => ?_⟩
    have h1 := hf x hx
    have h2 := h.lt hy
    omega
  · intro d hd
    rcases List.mem_cons.1 hd with rfl | hd
    · exact hp
    · exact h'.all d hd
  · intro k hk hlt
    rw [feet_cons, List.mem_append] at hk
    rcases hk with hk | hk
    · have h1 := hf k hk
      have h2 := h.ext.size
      omega
    · exact h.cov k hk hlt
/-- A fact that is already a chunk, without a foot. -/
theorem SH.addPure {b : World} {S : List Nat} {cs : List Chunk} {w : World} (h : SH b S cs w) {c : Chunk} (hp : c.pred w) (hf : c.foot = []) : SH b S (c :: cs) w :=
  h.add (Ext.refl _ _) hp (by simp [hf]) (by simp [hf])

inductive Upd : List Chunk → Chunk → Chunk → List Chunk → Prop
  | head {c c' : Chunk} {cs : List Chunk} : Upd (c :: cs) c c' (c' :: cs)
  | tail {c c' x : Chunk} {cs cs' : List Chunk} : Upd cs c c' cs' → Upd (x :: cs) c c' (x :: cs')
theorem Upd.split {cs cs' : List Chunk} {c c' : Chunk} (h : Upd cs c c' cs') : ∃ l r, cs = l ++ c :: r ∧ cs' = l ++ c' :: r := by
  induction h with
  | head => exact ⟨[], _, rfl, rfl⟩
  | @tail c c' x cs cs' _ ih => obtain ⟨l, r, rfl, rfl⟩ := ih; exact ⟨x :: l, r, rfl, rfl⟩
inductive Has : List Chunk → Chunk → Prop
  | head {c : Chunk} {cs : List Chunk} : Has (c :: cs) c
  | tail {c x : Chunk} {cs : List Chunk} : Has cs c → Has (x :: cs) c
theorem Has.mem {cs : List Chunk} {c : Chunk} (h : Has cs c) : c ∈ cs := by
  induction h with
  | head => simp
  | tail _ ih => exact List.mem_cons_of_mem _ ih
inductive Rem : List Chunk → Chunk → List Chunk → Prop
  | head {c : Chunk} {cs : List Chunk} : Rem (c :: cs) c cs
  | tail {c x : Chunk} {cs cs' : List Chunk} : Rem cs c cs' → Rem (x :: cs) c (x :: cs')
theorem Rem.split {cs cs' : List Chunk} {c : Chunk} (h : Rem cs c cs') : ∃ l r, cs = l ++ c :: r ∧ cs' = l ++ r := by
  induction h with
  | head => exact ⟨[], _, rfl, rfl⟩
  | @tail c x cs cs' _ ih => obtain ⟨l, r, rfl, rfl⟩ := ih; exact ⟨x :: l, r, rfl, rfl⟩

theorem feet_app (l r : List Chunk) : feet (l ++ r) = feet l ++ feet r := by simp [feet]

theorem SH.has {b : World} {S : List Nat} {cs : List Chunk} {w : World} (h : SH b S cs w) {c : Chunk} (hc : Has cs c) : c.pred w := h.all c hc.mem
theorem SH.rem {b : World} {S : List Nat} {cs cs' : List Chunk} {w : World} (h : SH b S cs w) {c : Chunk} (hc : Rem cs c cs') : SH b S cs' w := by
  obtain ⟨l, r, rfl, rfl⟩ := hc.split
  refine ⟨h.ext, ?_, fun d hd => h.all d (by rcases List.mem_append.1 hd with hd | hd <;> simp [hd]), fun k hk => h.cov k (by
    rw [feet_app, List.mem_append] at hk
    rcases hk with hk | hk <;> simp [feet_app, feet_cons, hk])⟩
  have := h.nodup
  rw [feet_app, feet_cons] at this
  rw [feet_app]
  exact this.sublist (by simp)
theorem SH.upd {b : World} {S : List Nat} {cs cs' : List Chunk} {w w' : World} (h : SH b S cs w) {c c' : Chunk} (hu : Upd cs c c' cs') (he : Ext c.foot w w') (hp : c'.pred w')
    (hf : ∀ k ∈ c'.foot, k ∈ c.foot ∨ w.heap.size ≤ k) (hn : c'.foot.Nodup) : SH b S cs' w' := by
  obtain ⟨l, r, rfl, rfl⟩ := hu.split
  have hnd := h.nodup
  rw [feet_app, feet_cons, List.nodup_append, List.nodup_append] at hnd
  obtain ⟨hl, ⟨hc, hr, hcr⟩, hlc⟩ := hnd
  have hlow : ∀ d, d ∈ l ∨ d ∈ r → ∀ k ∈ d.foot, k < w.heap.size ∧ k ∉ c.foot := by
    intro d hd k hk
    refine ⟨d.low w (h.all d (by rcases hd with hd | hd <;> simp [hd])) k hk, fun hkc => ?_⟩
    rcases hd with hd | hd
    · exact hlc k (mem_feet.2 ⟨d, hd, hk⟩) k (by simp [hkc]) rfl
    · exact hcr k hkc k (mem_feet.2 ⟨d, hd, hk⟩) rfl
  refine ⟨h.ext.trans he (fun x hx hlt => h.cov x (by simp [feet_app, feet_cons, hx]) hlt), ?_, ?_, ?_⟩
  · rw [feet_app, feet_cons, List.nodup_append, List.nodup_append]
    refine ⟨hl, ⟨hn, hr, ?_⟩, ?_⟩
    · rintro x hx y hy rfl
      obtain ⟨d, hd, hyd⟩ := mem_feet.1 hy
      have := hlow d (.inr hd) x hyd
      rcases hf x hx with h1 | h1
      · exact this.2 h1
      · omega
    · rintro x hx y hy rfl
      obtain ⟨d, hd, hxd⟩ := mem_feet.1 hx
      have hh := hlow d (.inl hd) x hxd
      rcases List.mem_append.1 hy with hy | hy
      · rcases hf x hy with h1 | h1
        · exact hh.2 h1
        · omega
      · exact hlc x hx x (by simp [hy]) rfl
  · intro d hd
    simp only [List.mem_append, List.mem_cons] at hd
    rcases hd with hd | rfl | hd
    · exact d.loc w w' (fun k hk => he.block k (hlow d (.inl hd) k hk).1 (hlow d (.inl hd) k hk).2) (h.all d (by simp [hd]))
    · exact hp
    · exact d.loc w w' (fun k hk => he.block k (hlow d (.inr hd) k hk).1 (hlow d (.inr hd) k hk).2) (h.all d (by simp [hd]))
  · intro k hk hlt
    rw [feet_app, feet_cons, List.mem_append, List.mem_append] at hk
    rcases hk with hk | hk | hk
    · exact h.cov k (by simp [feet_app, feet_cons, hk]) hlt
    · rcases hf k hk with h1 | h1
      · exact h.cov k (by simp [feet_app, feet_cons, h1]) hlt
      · have := h.ext.size
        omega
    · exact h.cov k (by simp [feet_app, feet_cons, hk]) hlt

/-- A block that is known whole. -/
def blk (g : Nat) (xs : List Value) (t : TypeId) : Chunk where
  foot := [g]
  pred w := w.heap[g]? = some (.cells xs.toArray t (0, 0))
  low w h k hk := by
    simp only [List.mem_singleton] at hk
    subst hk
    exact (Array.getElem?_eq_some_iff.1 h).1
  loc w w' h hp := by rw [h g (by simp)]; exact hp
/-- A slice of the call's own, that may grow: n elements, its cells xs. -/
def own (e : TypeId) (size : Nat) (v : Value) (n : Nat) (xs : List Value) : Chunk where
  foot := v.ownBlock.toList
  pred w := w.ownsRow 0 e size v n xs
  low w h k hk := (h.lt k (by simpa using hk)).2
  loc w w' h hp := by
    refine ⟨hp.1, ?_⟩
    rcases hp.2 with hn | ⟨g, cap, cur, rfl, hb, hgg, rest⟩
    · exact .inl hn
    · exact .inr ⟨g, cap, cur, rfl, hb, by rw [h g (by simp [Value.ownBlock])]; exact hgg, rest⟩

theorem SH.blk_cell {b : World} {S : List Nat} {cs : List Chunk} {w : World} (h : SH b S cs w) {g : Nat} {xs : List Value} {t : TypeId} (hc : Has cs (blk g xs t)) {o : Nat} {v : Value} (hv : xs[o]? = some v) :
    w.cell? ⟨g, o, none⟩ = some v := by
  have h1 := h.has hc
  rw [cell_of_row w g o xs.toArray t (0, 0) h1]
  simpa using hv
theorem SH.base_cell {b : World} {S : List Nat} {cs : List Chunk} {w : World} (h : SH b S cs w) {p : Addr} {v : Value} (hv : b.cell? p = some v) (hn : p.block ∉ S) : w.cell? p = some v := by
  rw [h.ext.cell (World.block_lt_of_cell? _ _ hv) hn]; exact hv
end Go.Proofs.Ytjmmikdbhhomiaa.Mq
