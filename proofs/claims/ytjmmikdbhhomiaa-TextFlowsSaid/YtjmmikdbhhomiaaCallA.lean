/-
  A CALL of which anything is known; a block of one's own that reads as a list.
-/
import Derived.Test.YtjmmikdbhhomiaaDrawS
namespace Go.Proofs.Ytjmmikdbhhomiaa.Mq
open Go Go.RowKit
section
variable {P : Program} {n : Nat} {ops : Array Oper} {Q : Post} {rest : List Oper} {l : Fr} {d : Nat} {ty : TypeId} {pos : String} {af : Array Edge} {b : World} {S : List Nat} {cs : List Chunk}
def RetA (R : Value → World → Prop) (w : World) : Ending → World → Prop := fun e w' => ∃ v, e = .returned v ∧ Ext [] w w' ∧ R v w'
theorem RW.callA {R : World → Value → World → Prop} {args : List Operand} {tys : Array TypeId} {f : FuncId} {vs : List Value} (hd : Nat.blt d n = true) (hcb : CaT P f) (hargs : evs l args = some vs)
    (hC : ∀ w, SH b S cs w → Calls P f vs.toArray w (RetA (R w) w))
    (h : ∀ w0 w1 v, SH b S cs w0 → Ext [] w0 w1 → SH b S cs w1 → (∀ k ∈ feet cs, k < w0.heap.size) → R w0 v w1 → RW P n ops Q rest ((d, v) :: l) (SH w1 (feet cs) cs)) :
    RW P n ops Q (⟨some d, .call ⟨.value (.func f), args.toArray, tys⟩, ty, pos, af, none⟩ :: rest) l (SH b S cs) := by
  refine RW.callG rfl hd hcb hargs fun w hw => ?_
  have := hC w hw
  simp only [Array.empty_append, Array.append_empty]
  refine this.mono ?_
  rintro e w' ⟨v, rfl, he, hr⟩
  exact ⟨_, rfl, (h w w' v hw he (hw.keep he) (fun k hk => hw.lt hk) hr).at (hw.keep he).rebase⟩
theorem Rd.of_blk {α : Type} {E : Enc α} {w : World} (h : SH b S cs w) {g t : Nat} {L : List α} {m : Nat} (hb : Has cs (blk g (E.all L) t)) (hm : L.length = m) (hl : m ≤ maxLen) :
    Rd E w (fun k => k = g) (some ⟨g, 0, none⟩) m m L :=
  ⟨hm, Nat.le_refl _, hl, fun _ => ⟨_, rfl, rfl, fun k a j u hk hu => by
    rw [add_add, Addr.add_lit]
    exact h.blk_cell hb (by rw [Nat.zero_add]; exact E.all_get hk hu)⟩⟩
theorem SH.ownBlk {w : World} (h : SH b S cs w) {g e sz m : Nat} {xs : List Value} {cs' : List Chunk} (hu : Upd cs (blk g xs e) (own e sz (.slice (some ⟨g, 0, none⟩) m m) m xs) cs') (hl : xs.length = m * sz) (hm : m ≤ maxLen) : SH b S cs' w := by
  have hb : w.heap[g]? = some (.cells xs.toArray e (0, 0)) := h.has hu.has
  refine h.upd hu (Ext.refl _ _) ⟨hl, .inr ⟨g, m, xs.toArray, rfl, Nat.zero_le _, hb, Nat.le_refl _, hm, by simpa using hl, by simp [← hl]⟩⟩ ?_ ?_
  · intro k hk
    left
    simpa [own, blk, Value.ownBlock] using hk
  · simp [own, Value.ownBlock]
theorem RW.ownBlk {g e sz m : Nat} {xs : List Value} {cs' : List Chunk} (m' : Nat) (hm' : m = m') (hu : Upd cs (blk g xs e) (own e sz (.slice (some ⟨g, 0, none⟩) m m) m xs) cs') (hl : xs.length = m * sz) (hm : m ≤ maxLen) (h : RW P n ops Q rest l (SH b S cs')) : RW P n ops Q rest l (SH b S cs) :=
  RW.sub h (Sub.refl _) (fun _ hw => hw.ownBlk hu hl hm)
theorem CW.ownBlk {c : Code} {g e sz m : Nat} {xs : List Value} {cs' : List Chunk} (hu : Upd cs (blk g xs e) (own e sz (.slice (some ⟨g, 0, none⟩) m m) m xs) cs') (hl : xs.length = m * sz) (hm : m ≤ maxLen) (h : CW P n c Q l (SH b S cs')) : CW P n c Q l (SH b S cs) :=
  CW.sub h (Sub.refl _) (fun _ hw => hw.ownBlk hu hl hm)
theorem CW.rem {c : Code} {k : Chunk} {cs' : List Chunk} (hr : Rem cs k cs') (h : CW P n c Q l (SH b S cs')) : CW P n c Q l (SH b S cs) :=
  CW.sub h (Sub.refl _) (fun _ hw => hw.rem hr)
end
end Go.Proofs.Ytjmmikdbhhomiaa.Mq
