/-
  TWO CHUNKS AS ONE; CALLS THAT LEAVE A CHUNK KNOWN BUT FOR AN INDEX; 'clear' of an own slice.
-/
import Derived.Test.YtjmmikdbhhomiaaDrawU
import Derived.Test.YtjmmikdbhhomiaaCallA
import Derived.Lib.SliceRun
import Derived.Laws.Pointers
namespace Go.Proofs.Ytjmmikdbhhomiaa.Mq
open Go Go.RowKit

/- an empty slice literal -/
theorem run_buildSlice0 {P : Program} {t e sz by_ : Nat} {z : List Value} {w : World} (h : SlT P t e sz by_ z) :
    (Instr.buildSlice t 0 #[]).run P w = .ok (.slice (some ⟨w.heap.size, 0, none⟩) 0 0) (w.alloc (.cells #[] e)) := by
  obtain ⟨i, zv, h1, h2, h3, h4, h5⟩ := h.inf
  unfold Instr.buildSlice
  simp only [Sem.run_bind, run_underlying h.und, Result.andThen_ok, run_sizeOf h1, h4]
  simp [Instr.fill, newRow]
  congr 2
  apply Array.ext <;> simp
theorem RW.buildSl0 {P : Program} {n : Nat} {ops : Array Oper} {Q : Post} {rest : List Oper} {l : Fr} {d : Nat} {ty : TypeId} {pos : String} {af : Array Edge} {t e sz by_ : Nat} {z : List Value} {b : World} {S : List Nat} {cs : List Chunk} (ht : SlT P t e sz by_ z) (hd : Nat.blt d n = true)
    (h : ∀ g, b.heap.size ≤ g → (∀ k ∈ feet cs, k < g) → RW P n ops Q rest ((d, .slice (some ⟨g, 0, none⟩) 0 0) :: l) (SH b S (blk g [] e :: cs))) : RW P n ops Q (⟨some d, .buildSlice t 0 #[], ty, pos, af, none⟩ :: rest) l (SH b S cs) :=
  RW.step hd fun ρ w hρ hw => ⟨.slice (some ⟨w.heap.size, 0, none⟩) 0 0, w.alloc (.cells #[] e), by
    simp [execOp, run_buildSlice0 ht], (h w.heap.size hw.ext.size (fun k hk => hw.lt hk)).at (hw.newblk [] e)⟩
def both (c d : Chunk) : Chunk where
  foot := c.foot ++ d.foot
  pred w := c.pred w ∧ d.pred w
  low w h k hk := by
    rcases List.mem_append.1 hk with hk | hk
    · exact c.low w h.1 k hk
    · exact d.low w h.2 k hk
  loc w w' h hp := ⟨c.loc w w' (fun k hk => h k (List.mem_append_left _ hk)) hp.1, d.loc w w' (fun k hk => h k (List.mem_append_right _ hk)) hp.2⟩
theorem Rem.perm {cs cs' : List Chunk} {c : Chunk} (h : Rem cs c cs') : List.Perm cs (c :: cs') := by
  obtain ⟨l, r, rfl, rfl⟩ := h.split
  exact List.perm_middle
theorem feet_perm {a b : List Chunk} (h : List.Perm a b) : List.Perm (feet a) (feet b) := by
  unfold feet
  exact h.flatMap_right _
theorem SH.perm {b : World} {S : List Nat} {cs cs' : List Chunk} {w : World} (h : SH b S cs w) (hp : List.Perm cs cs') : SH b S cs' w :=
  ⟨h.ext, (feet_perm hp).nodup_iff.1 h.nodup, fun c hc => h.all c (hp.mem_iff.2 hc), fun k hk => h.cov k ((feet_perm hp).mem_iff.2 hk)⟩
theorem SH.unboth {b : World} {S : List Nat} {cs cs' : List Chunk} {w : World} {c d : Chunk} (h : SH b S cs w) (hr : Rem cs (both c d) cs') : SH b S (c :: d :: cs') w := by
  have h1 := h.perm hr.perm
  have e : feet (both c d :: cs') = feet (c :: d :: cs') := by simp [feet, both]
  refine ⟨h1.ext, e ▸ h1.nodup, fun x hx => ?_, fun k hk => h1.cov k (e ▸ hk)⟩
  have hb : (both c d).pred w := h1.all _ (by simp)
  rcases List.mem_cons.1 hx with rfl | hx
  · exact hb.1
  · rcases List.mem_cons.1 hx with rfl | hx
    · exact hb.2
    · exact h1.all x (by simp [hx])
theorem SH.both {b : World} {S : List Nat} {cs cs1 cs2 : List Chunk} {w : World} {c d : Chunk} (h : SH b S cs w) (hr : Rem cs c cs1) (hr2 : Rem cs1 d cs2) : SH b S (both c d :: cs2) w := by
  have h1 := h.perm (hr.perm.trans (hr2.perm.cons c))
  have e : feet (Mq.both c d :: cs2) = feet (c :: d :: cs2) := by simp [feet, Mq.both]
  refine ⟨h1.ext, e ▸ h1.nodup, fun x hx => ?_, fun k hk => h1.cov k (e ▸ hk)⟩
  rcases List.mem_cons.1 hx with rfl | hx
  · exact ⟨h1.all c (by simp), h1.all d (by simp)⟩
  · exact h1.all x (by simp [hx])
/-- what a call makes of a chunk -/
def RetU {ι : Type} (v : ι → Value) (c : Chunk) (c' : ι → Chunk) (ok : ι → Prop) (w : World) : Ending → World → Prop := fun e w' =>
  ∃ i, ok i ∧ e = .returned (v i) ∧ Ext c.foot w w' ∧ (c' i).pred w' ∧ (∀ k ∈ (c' i).foot, k ∈ c.foot ∨ w.heap.size ≤ k) ∧ (c' i).foot.Nodup
theorem RetU.of {ι : Type} {v : ι → Value} {c : Chunk} {c' : ι → Chunk} {ok : ι → Prop} {w w' : World} (i : ι) (hi : ok i) (h : SH w c.foot [c' i] w') : RetU v c c' ok w (.returned (v i)) w' := by
  have e : feet [c' i] = (c' i).foot := by simp [feet]
  refine ⟨i, hi, rfl, h.ext, h.all _ (by simp), fun k hk => ?_, e ▸ h.nodup⟩
  rcases Nat.lt_or_ge k w.heap.size with hlt | hge
  · exact .inl (h.cov k (e.symm ▸ hk) hlt)
  · exact .inr hge
/-- what a call makes -/
def RetN {ι : Type} (v : ι → Value) (c' : ι → Chunk) (ok : ι → Prop) (w : World) : Ending → World → Prop := fun e w' =>
  ∃ i, ok i ∧ e = .returned (v i) ∧ Ext [] w w' ∧ (c' i).pred w' ∧ (∀ k ∈ (c' i).foot, w.heap.size ≤ k) ∧ (c' i).foot.Nodup
theorem RetN.of {ι : Type} {v : ι → Value} {c' : ι → Chunk} {ok : ι → Prop} {w w' : World} (i : ι) (hi : ok i) (h : SH w [] [c' i] w') : RetN v c' ok w (.returned (v i)) w' := by
  have e : feet [c' i] = (c' i).foot := by simp [feet]
  refine ⟨i, hi, rfl, h.ext, h.all _ (by simp), fun k hk => ?_, e ▸ h.nodup⟩
  rcases Nat.lt_or_ge k w.heap.size with hlt | hge
  · exact absurd (h.cov k (e.symm ▸ hk) hlt) (by simp)
  · exact hge
section
variable {P : Program} {n : Nat} {ops : Array Oper} {Q : Post} {rest : List Oper} {l : Fr} {d : Nat} {ty : TypeId} {pos : String} {af : Array Edge}
variable {b : World} {S : List Nat} {cs : List Chunk}
theorem RW.unboth {cs' : List Chunk} {c1 c2 : Chunk} (hr : Rem cs (Mq.both c1 c2) cs') (h : RW P n ops Q rest l (SH b S (c1 :: c2 :: cs'))) : RW P n ops Q rest l (SH b S cs) := RW.sub h (Sub.refl _) (fun _ hw => hw.unboth hr)
theorem CW.unboth {cd : Code} {cs' : List Chunk} {c1 c2 : Chunk} (hr : Rem cs (Mq.both c1 c2) cs') (h : CW P n cd Q l (SH b S (c1 :: c2 :: cs'))) : CW P n cd Q l (SH b S cs) := CW.sub h (Sub.refl _) (fun _ hw => hw.unboth hr)
theorem RW.both {cs1 cs2 : List Chunk} {c1 c2 : Chunk} (hr : Rem cs c1 cs1) (hr2 : Rem cs1 c2 cs2) (h : RW P n ops Q rest l (SH b S (Mq.both c1 c2 :: cs2))) : RW P n ops Q rest l (SH b S cs) := RW.sub h (Sub.refl _) (fun _ hw => hw.both hr hr2)
theorem RW.callUI {ι : Type} {args : List Operand} {tys : Array TypeId} {f : FuncId} {vs : List Value} {v : ι → Value} {c : Chunk} {c' : ι → Chunk} {ok : ι → Prop} (cs' : ι → List Chunk) (hd : Nat.blt d n = true) (hcb : CaT P f) (hargs : evs l args = some vs) (hu : ∀ i, Upd cs c (c' i) (cs' i))
    (hC : ∀ w, SH b S cs w → Calls P f vs.toArray w (RetU v c c' ok w))
    (h : ∀ i, ok i → RW P n ops Q rest ((d, v i) :: l) (SH b S (cs' i))) :
    RW P n ops Q (⟨some d, .call ⟨.value (.func f), args.toArray, tys⟩, ty, pos, af, none⟩ :: rest) l (SH b S cs) := by
  refine RW.callG rfl hd hcb hargs fun w hw => ?_
  have := hC w hw
  simp only [Array.empty_append, Array.append_empty]
  refine this.mono ?_
  rintro e w' ⟨i, hi, rfl, he, hp, hf, hn⟩
  exact ⟨v i, rfl, (h i hi).at (hw.upd (hu i) he hp hf hn)⟩
theorem RW.callNew {ι : Type} {args : List Operand} {tys : Array TypeId} {f : FuncId} {vs : List Value} {v : ι → Value} {c' : ι → Chunk} {ok : ι → Prop} (hd : Nat.blt d n = true) (hcb : CaT P f) (hargs : evs l args = some vs)
    (hC : ∀ w, SH b S cs w → Calls P f vs.toArray w (RetN v c' ok w))
    (h : ∀ i, ok i → RW P n ops Q rest ((d, v i) :: l) (SH b S (c' i :: cs))) :
    RW P n ops Q (⟨some d, .call ⟨.value (.func f), args.toArray, tys⟩, ty, pos, af, none⟩ :: rest) l (SH b S cs) := by
  refine RW.callG rfl hd hcb hargs fun w hw => ?_
  have := hC w hw
  simp only [Array.empty_append, Array.append_empty]
  refine this.mono ?_
  rintro e w' ⟨i, hi, rfl, he, hp, hf, hn⟩
  exact ⟨v i, rfl, (h i hi).at (hw.add he hp hf hn)⟩
theorem RW.step0v {H : World → Prop} {op : Op}
    (h : ∀ ρ w, Evs l ρ → H w → ∃ v w', (execOp ρ ⟨none, op, ty, pos, af, none⟩).run P w = .ok (.value v) w' ∧ RW P n ops Q rest l (fun x => x = w')) :
    RW P n ops Q (⟨none, op, ty, pos, af, none⟩ :: rest) l H := by
  intro w hw a ha
  obtain ⟨v, w', hrun, hk⟩ := h a.eval w (fun x v hx => ha.ev hx) hw
  unfold wpList
  rw [if_pos (by simp [Region.wanted])]
  refine .inl ?_
  simp only [Oper.wp, hrun, Oper.upon_value]
  exact hk w' rfl _ ha
theorem RW.clearOwn {x : Operand} {t e : Nat} {z : Value} {g m c : Nat} {xs : List Value} {cs' : List Chunk} (ht : P.underlying t = some (.slice e)) (hz : ∀ w, (zeroValue e).run P w = .ok z w) (hzc : z.cells = #[z]) (h1 : z.oneCell' = true) (hm : 0 < m)
    (hx : ev l x = some (.slice (some ⟨g, 0, none⟩) m c)) (hu : Upd cs (own e 1 (.slice (some ⟨g, 0, none⟩) m c) m xs) (own e 1 (.slice (some ⟨g, 0, none⟩) m c) m (List.replicate m z)) cs')
    (h : RW P n ops Q rest l (SH b S cs')) :
    RW P n ops Q (⟨none, .call ⟨.builtin .clear, #[x], #[t]⟩, ty, pos, af, none⟩ :: rest) l (SH b S cs) := by
  refine RW.step0v fun ρ w hρ hw => ?_
  have hown := hw.has hu.has
  have hxs : xs.length = m := by simpa using hown.1
  have hspl : splice xs 0 (List.replicate m z) = List.replicate m z := by
    rw [splice_all 0 (by simp [hxs])]
    simp [hxs]
  rw [← hspl] at hu
  obtain ⟨w', hr, hw'⟩ := hw.storeOwn (P := P) (xs := xs) (o := 0) (vs := List.replicate m z) (by simp [hxs]) (fun u hu => by rw [List.eq_of_mem_replicate hu]; exact h1) hu
  have hzl : (Builtin.zeroCells z.cells m).toList = List.replicate m z := by
    rw [hzc]
    simp [Builtin.zeroCells]
    apply List.ext_getElem
    · simp
    · intro i h1 h2
      simp [Nat.mod_one]
  obtain ⟨m, rfl⟩ : ∃ k, m = k + 1 := ⟨m - 1, by omega⟩
  refine ⟨.tuple #[], w', ?_, h.at hw'⟩
  simp [execOp, resolve, invoke, builtin, hρ x _ hx, Builtin.clear_, run_underlying ht, hz, hzl, hr]
/- pointers -/
theorem RW.eqlP {H : World → Prop} {xt yt e : TypeId} {x : Operand} {p : Option Addr} {r : Bool} (ht : P.underlying xt = some (.pointer e)) (hd : Nat.blt d n = true) (hx : ev l x = some (.pointer p)) (hr : p.isNone = r)
    (h : RW P n ops Q rest ((d, .bool r) :: l) H) : RW P n ops Q (⟨some d, .binOp .eql xt x (.const (.pointer none)) yt, ty, pos, af, none⟩ :: rest) l H :=
  RW.val _ hd (fun ρ w hρ => by
    have e1 : ρ (.const (.pointer none)) = .pointer none := hρ _ _ rfl
    have e2 := run_eql_pointer_nil (P := P) w xt p (by simp [Program.pointee, ht])
    subst hr
    simp [execOp, hρ x _ hx, e1, eqGuard, e2]) h
theorem RW.neqP {H : World → Prop} {xt yt e : TypeId} {x : Operand} {p : Option Addr} {r : Bool} (ht : P.underlying xt = some (.pointer e)) (hd : Nat.blt d n = true) (hx : ev l x = some (.pointer p)) (hr : (!p.isNone) = r)
    (h : RW P n ops Q rest ((d, .bool r) :: l) H) : RW P n ops Q (⟨some d, .binOp .neq xt x (.const (.pointer none)) yt, ty, pos, af, none⟩ :: rest) l H :=
  RW.val _ hd (fun ρ w hρ => by
    have e1 : ρ (.const (.pointer none)) = .pointer none := hρ _ _ rfl
    have e2 := run_neq_pointer_nil (P := P) w xt p (by simp [Program.pointee, ht])
    subst hr
    simp [execOp, hρ x _ hx, e1, eqGuard, e2]) h
theorem RW.nilChk {H : World → Prop} {x : Operand} {p : Addr} (hd : Nat.blt d n = true) (hx : ev l x = some (.pointer (some p)))
    (h : RW P n ops Q rest ((d, .pointer (some p)) :: l) H) : RW P n ops Q (⟨some d, .nilCheck x, ty, pos, af, none⟩ :: rest) l H :=
  RW.val _ hd (fun ρ w hρ => by simp [execOp, hρ x _ hx]) h
end
end Go.Proofs.Ytjmmikdbhhomiaa.Mq
