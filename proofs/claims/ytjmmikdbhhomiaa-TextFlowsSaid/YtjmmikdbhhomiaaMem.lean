/-
  RULES FOR OPERATIONS THAT MAKE OR WRITE MEMORY, AND FOR CALLS.
-/
import Derived.Test.YtjmmikdbhhomiaaOps
namespace Go.Proofs.Ytjmmikdbhhomiaa.Mq
open Go Go.RowKit

section
variable {P : Program} {n : Nat} {ops : Array Oper} {Q : Post} {rest : List Oper} {l : Fr} {d : Nat} {ty : TypeId} {pos : String} {af : Array Edge}
variable {b : World} {S : List Nat} {cs : List Chunk}

/- A NEW VARIABLE -/
theorem SH.newblk {w : World} (h : SH b S cs w) (xs : List Value) (t : TypeId) : SH b S (blk w.heap.size xs t :: cs) (w.alloc (.cells xs.toArray t)) :=
  h.add (Ext.alloc _ _ _) (by exact heap_alloc_new w _) (by simp [blk]) (by simp [blk])
theorem RW.allocA {t sz : Nat} {z : List Value} (ht : AgT P t sz z) (hd : Nat.blt d n = true)
    (h : ∀ g, b.heap.size ≤ g → (∀ k ∈ feet cs, k < g) → RW P n ops Q rest ((d, .pointer (some ⟨g, 0, none⟩)) :: l) (SH b S (blk g z t :: cs))) :
    RW P n ops Q (⟨some d, .alloc t, ty, pos, af, none⟩ :: rest) l (SH b S cs) := by
  obtain ⟨i, h3, h4, _⟩ := ht.inf
  refine RW.step hd fun ρ w _ hw => ⟨.pointer (some ⟨w.heap.size, 0, none⟩), w.alloc (.cells z.toArray t), ?_, (h w.heap.size hw.ext.size (fun k hk => hw.lt hk)).at (hw.newblk z t)⟩
  simp [execOp, Instr.alloc, run_zeroValue h3 h4, newVar, newRow, Value.cells]
theorem oneCell_cells {z : Value} (h : z.oneCell' = true) : z.cells = #[z] := by
  cases z <;> first | rfl | cases h
theorem RW.alloc1 {t : Nat} {z : Value} (ht : ScT P t z) (hd : Nat.blt d n = true)
    (h : ∀ g, b.heap.size ≤ g → (∀ k ∈ feet cs, k < g) → RW P n ops Q rest ((d, .pointer (some ⟨g, 0, none⟩)) :: l) (SH b S (blk g [z] t :: cs))) :
    RW P n ops Q (⟨some d, .alloc t, ty, pos, af, none⟩ :: rest) l (SH b S cs) := by
  obtain ⟨i, h3, h4, _⟩ := ht.inf
  refine RW.step hd fun ρ w _ hw => ⟨.pointer (some ⟨w.heap.size, 0, none⟩), w.alloc (.cells [z].toArray t), ?_, (h w.heap.size hw.ext.size (fun k hk => hw.lt hk)).at (hw.newblk [z] t)⟩
  simp [execOp, Instr.alloc, run_zeroValue h3 h4, newVar, newRow, oneCell_cells ht.one]
theorem RW.boxA {t : Nat} {x : Operand} {xs : List Value} (hd : Nat.blt d n = true) (hx : ev l x = some (.agg xs.toArray))
    (h : ∀ g, b.heap.size ≤ g → (∀ k ∈ feet cs, k < g) → RW P n ops Q rest ((d, .pointer (some ⟨g, 0, none⟩)) :: l) (SH b S (blk g xs t :: cs))) :
    RW P n ops Q (⟨some d, .box t x, ty, pos, af, none⟩ :: rest) l (SH b S cs) := by
  refine RW.step hd fun ρ w hρ hw => ⟨.pointer (some ⟨w.heap.size, 0, none⟩), w.alloc (.cells xs.toArray t), ?_, (h w.heap.size hw.ext.size (fun k hk => hw.lt hk)).at (hw.newblk xs t)⟩
  simp [execOp, Instr.box, hρ x _ hx, newVar, newRow, Value.cells]
theorem RW.box1 {t : Nat} {x : Operand} {v : Value} (hd : Nat.blt d n = true) (hx : ev l x = some v) (hv : v.oneCell' = true)
    (h : ∀ g, b.heap.size ≤ g → (∀ k ∈ feet cs, k < g) → RW P n ops Q rest ((d, .pointer (some ⟨g, 0, none⟩)) :: l) (SH b S (blk g [v] t :: cs))) :
    RW P n ops Q (⟨some d, .box t x, ty, pos, af, none⟩ :: rest) l (SH b S cs) := by
  refine RW.step hd fun ρ w hρ hw => ⟨.pointer (some ⟨w.heap.size, 0, none⟩), w.alloc (.cells [v].toArray t), ?_, (h w.heap.size hw.ext.size (fun k hk => hw.lt hk)).at (hw.newblk [v] t)⟩
  simp [execOp, Instr.box, hρ x _ hx, newVar, newRow, oneCell_cells hv]

/- STORES into a block that is known whole -/
def splice (xs : List Value) : Nat → List Value → List Value
  | _, [] => xs
  | o, v :: vs => splice (xs.set o v) (o + 1) vs
theorem splice_length (vs : List Value) : ∀ (xs : List Value) (o : Nat), (splice xs o vs).length = xs.length := by
  induction vs with
  | nil => intro xs o; rfl
  | cons v vs ih => intro xs o; simp [splice, ih]
def Ones (vs : List Value) : Prop := ∀ u ∈ vs, u.oneCell' = true
theorem run_storeCells {g : Nat} {t : TypeId} : ∀ (vs : List Value) (xs : List Value) (w : World) (o i : Nat), w.heap[g]? = some (.cells xs.toArray t (0, 0)) → o + i + vs.length ≤ xs.length → Ones vs →
    ∃ w', (storeCells (⟨g, o, none⟩ : Addr) vs i).run P w = .ok () w' ∧ w'.heap[g]? = some (.cells (splice xs (o + i) vs).toArray t (0, 0)) ∧ Ext [g] w w'
  | [], xs, w, o, i, h, _, _ => ⟨w, by simp [storeCells], by simpa [splice] using h, Ext.refl _ _⟩
  | v :: vs, xs, w, o, i, h, hl, h1 => by
    simp only [List.length_cons] at hl
    have hadd : (⟨g, o, none⟩ : Addr).add i = ⟨g, o + i, none⟩ := Addr.add_lit g o i
    have hc : w.cell? ⟨g, o + i, none⟩ = some (xs[o + i]'(by omega)) := by
      rw [cell_of_row w g (o + i) xs.toArray t (0, 0) h]
      simp
    have hf : w.frozen? ⟨g, o + i, none⟩ = false := by simp [World.frozen?, h]
    have h' : (w.setCell ⟨g, o + i, none⟩ v).heap[g]? = some (.cells (xs.set (o + i) v).toArray t (0, 0)) := by
      simp [World.setCell, Array.getElem?_modify, h]
    obtain ⟨w', hr, hw', he⟩ := run_storeCells vs (xs.set (o + i) v) (w.setCell ⟨g, o + i, none⟩ v) o (i + 1) h' (by simp; omega) (fun u hu => h1 u (by simp [hu]))
    refine ⟨w', ?_, by simpa [splice, Nat.add_assoc] using hw', (Ext.setCell w ⟨g, o + i, none⟩ v).trans he (by simp)⟩
    have hst := run_store P w ⟨g, o + i, none⟩ v .plain (h1 v (by simp))
    simp only [storeCells, hadd, Sem.run_bind, hst, hc, hf]
    simpa using hr
theorem SH.store {w : World} {g : Nat} {xs : List Value} {t : TypeId} {cs' : List Chunk} (h : SH b S cs w) {o : Nat} {vs : List Value} (hl : o + vs.length ≤ xs.length) (h1 : Ones vs)
    (hu : Upd cs (blk g xs t) (blk g (splice xs o vs) t) cs') :
    ∃ w', (storeCells (⟨g, o, none⟩ : Addr) vs 0).run P w = .ok () w' ∧ SH b S cs' w' := by
  have hg : (blk g xs t).pred w := by
    obtain ⟨l, r, rfl, _⟩ := hu.split
    exact h.all _ (by simp)
  obtain ⟨w', hr, hw', he⟩ := run_storeCells (P := P) vs xs w o 0 hg (by simpa using hl) h1
  exact ⟨w', hr, h.upd hu he hw' (by simp [blk]) (by simp [blk])⟩
theorem RW.storeA {x y : Operand} {t sz : Nat} {z vs : List Value} {g o : Nat} {xs : List Value} {te : TypeId} {cs' : List Chunk} (ht : AgT P t sz z) (hx : ev l x = some (.pointer (some ⟨g, o, none⟩))) (hy : ev l y = some (.agg vs.toArray))
    (hu : Upd cs (blk g xs te) (blk g (splice xs o vs) te) cs') (hs : vs.length = sz) (h1 : Ones vs) (hl : o + vs.length ≤ xs.length)
    (h : RW P n ops Q rest l (SH b S cs')) : RW P n ops Q (⟨none, .store t x y, ty, pos, af, none⟩ :: rest) l (SH b S cs) := by
  obtain ⟨i, h3, _, h4⟩ := ht.inf
  refine RW.step0 fun ρ w hρ hw => ?_
  obtain ⟨w', hr, hw'⟩ := hw.store (P := P) hl h1 hu
  refine ⟨w', ?_, h.at hw'⟩
  simp [execOp, Instr.storeAt, hρ x _ hx, hρ y _ hy, Instr.sureAddr, storeVar, run_sizeOf h3, h4, hs, Value.cells, hr]
theorem RW.store1 {x y : Operand} {t : Nat} {z v : Value} {g o : Nat} {xs : List Value} {te : TypeId} {cs' : List Chunk} (ht : ScT P t z) (hx : ev l x = some (.pointer (some ⟨g, o, none⟩))) (hy : ev l y = some v)
    (hu : Upd cs (blk g xs te) (blk g (xs.set o v) te) cs') (h1 : v.oneCell' = true) (hl : o + 1 ≤ xs.length)
    (h : RW P n ops Q rest l (SH b S cs')) : RW P n ops Q (⟨none, .store t x y, ty, pos, af, none⟩ :: rest) l (SH b S cs) := by
  obtain ⟨i, h3, _, h4⟩ := ht.inf
  refine RW.step0 fun ρ w hρ hw => ?_
  obtain ⟨w', hr, hw'⟩ := hw.store (P := P) (vs := [v]) hl (by simpa [Ones] using h1) hu
  refine ⟨w', ?_, h.at hw'⟩
  simp [execOp, Instr.storeAt, hρ x _ hx, hρ y _ hy, Instr.sureAddr, storeVar, run_sizeOf h3, h4, oneCell_cells h1, hr]

/- LOADS out of a block that is known whole -/
theorem RW.loadB1 {x : Operand} {t : TypeId} {z : Value} {g o : Nat} {xs : List Value} {te : TypeId} {v : Value} (ht : ScT P t z) (hd : Nat.blt d n = true) (hx : ev l x = some (.pointer (some ⟨g, o, none⟩)))
    (hb : Has cs (blk g xs te)) (hv : xs[o]? = some v)
    (h : RW P n ops Q rest ((d, v) :: l) (SH b S cs)) : RW P n ops Q (⟨some d, .load t x, ty, pos, af, none⟩ :: rest) l (SH b S cs) :=
  RW.load1 ht hd hx (fun _ hw => hw.blk_cell hb hv) h
theorem RW.loadBA {x : Operand} {t sz : TypeId} {z : List Value} {g o : Nat} {xs vs : List Value} {te : TypeId} (ht : AgT P t sz z) (hd : Nat.blt d n = true) (hx : ev l x = some (.pointer (some ⟨g, o, none⟩)))
    (hb : Has cs (blk g xs te)) (hv : (xs.drop o).take sz = vs) (hl : vs.length = sz)
    (h : RW P n ops Q rest ((d, .agg vs.toArray) :: l) (SH b S cs)) : RW P n ops Q (⟨some d, .load t x, ty, pos, af, none⟩ :: rest) l (SH b S cs) :=
  RW.loadA ht hd hx hl (fun _ hw j u hu => by
    rw [Addr.add_lit]
    refine hw.blk_cell hb ?_
    rw [← hv, List.getElem?_take] at hu
    split at hu
    · simpa using hu
    · cases hu) h

/- STRUCTS AND ARRAYS BUILT -/
theorem RW.build {t : TypeId} {parts : List (Nat × Operand)} {vs : List Value} (hd : Nat.blt d n = true) (ps : List (Nat × Value)) (hps : ∀ ρ, Evs l ρ → parts.map (fun p => (p.1, ρ p.2)) = ps)
    (hrun : ∀ w, (Instr.build t ps.toArray).run P w = .ok (.agg vs.toArray) w)
    (h : RW P n ops Q rest ((d, .agg vs.toArray) :: l) (SH b S cs)) : RW P n ops Q (⟨some d, .build t parts.toArray, ty, pos, af, none⟩ :: rest) l (SH b S cs) :=
  RW.val _ hd (fun ρ w hρ => by
    have := hps ρ hρ
    simp [execOp, this, hrun]) h
theorem RW.buildSl {t e : TypeId} {len : Nat} {parts : List (Nat × Operand)} {vs : List Value} (hd : Nat.blt d n = true) (ps : List (Nat × Value)) (hps : ∀ ρ, Evs l ρ → parts.map (fun p => (p.1, ρ p.2)) = ps)
    (hrun : ∀ w : World, (Instr.buildSlice t len ps.toArray).run P w = .ok (.slice (some ⟨w.heap.size, 0, none⟩) len len) (w.alloc (.cells vs.toArray e)))
    (h : ∀ g, b.heap.size ≤ g → (∀ k ∈ feet cs, k < g) → RW P n ops Q rest ((d, .slice (some ⟨g, 0, none⟩) len len) :: l) (SH b S (blk g vs e :: cs))) : RW P n ops Q (⟨some d, .buildSlice t len parts.toArray, ty, pos, af, none⟩ :: rest) l (SH b S cs) :=
  RW.step hd fun ρ w hρ hw => ⟨.slice (some ⟨w.heap.size, 0, none⟩) len len, w.alloc (.cells vs.toArray e), by
    have := hps ρ hρ
    simp [execOp, this, hrun], (h w.heap.size hw.ext.size (fun k hk => hw.lt hk)).at (hw.newblk vs e)⟩

/- SLICES OF THE CALL's OWN -/
theorem Has.upd {cs : List Chunk} {c : Chunk} (h : Has cs c) (c' : Chunk) : ∃ cs', Upd cs c c' cs' := by
  induction h with
  | head => exact ⟨_, .head⟩
  | tail _ ih => obtain ⟨cs', hc⟩ := ih; exact ⟨_, .tail hc⟩
theorem SH.ownNil {w : World} (h : SH b S cs w) (e size : Nat) : SH b S (own e size (.slice none 0 0) 0 [] :: cs) w := h.addPure (by exact World.ownsRow_nil _ _ _ _) rfl
theorem RW.ownNil {H : List Oper} (e size : Nat) (h : RW P n ops Q H l (SH b S (own e size (.slice none 0 0) 0 [] :: cs))) : RW P n ops Q H l (SH b S cs) :=
  RW.sub h (Sub.refl _) (fun _ hw => hw.ownNil e size)
theorem CW.ownNil {c : Code} (e size : Nat) (h : CW P n c Q l (SH b S (own e size (.slice none 0 0) 0 [] :: cs))) : CW P n c Q l (SH b S cs) :=
  CW.sub h (Sub.refl _) (fun _ hw => hw.ownNil e size)
theorem Upd.has {cs cs' : List Chunk} {c c' : Chunk} (h : Upd cs c c' cs') : Has cs c := by
  induction h with
  | head => exact .head
  | tail _ ih => exact .tail ih
theorem RW.append {x y : Operand} {t e sz by_ : Nat} {z : List Value} {v : Value} {m : Nat} {xs : List Value} {a : Addr} {k c : Nat} {news : List Value} {cs' : Value → List Chunk} (ht : SlT P t e sz by_ z) (hd : Nat.blt d n = true)
    (hx : ev l x = some v) (hy : ev l y = some (.slice (some a) k c)) (hu : ∀ v', Upd cs (own e sz v m xs) (own e sz v' (m + k) (xs ++ news)) (cs' v'))
    (hl : news.length = k * sz) (hnews : ∀ w, SH b S cs w → ∀ j u, news[j]? = some u → w.cell? (a.add j) = some u) (h1 : Ones news) (h63 : m + k ≤ maxLen) (hbytes : (m + k) * by_ ≤ 140737488355328)
    (h : ∀ v', (∀ g, v'.ownBlock = some g → v.ownBlock = some g ∨ (b.heap.size ≤ g ∧ ∀ k ∈ feet cs, k < g)) → RW P n ops Q rest ((d, v') :: l) (SH b S (cs' v'))) :
    RW P n ops Q (⟨some d, .call ⟨.builtin .append, #[x, y], #[t, t]⟩, ty, pos, af, none⟩ :: rest) l (SH b S cs) := by
  obtain ⟨i, zv, hi1, hz, hzc, hs, hby⟩ := ht.inf
  refine RW.step hd fun ρ w hρ hw => ?_
  have hown := hw.has (hu v).has
  obtain ⟨v', w', hrun, h2, h3, _, h5⟩ := run_append_own_at (P := P) w 0 t ty e i zv sz by_ ht.und hi1 hz hs hby (by rw [← Array.length_toList, hzc, ht.len]) ht.pos v m xs hown a k c news hl (hnews w hw) h1 h63 hbytes (Nat.zero_le _)
  refine ⟨v', w', ?_, (h v' ?_).at (hw.upd (hu v') (Ext.of_grown h3) h2 ?_ ?_)⟩
  · simp [execOp, resolve, invoke, builtin, hρ x _ hx, hρ y _ hy, hrun]
  · intro g hg
    rcases h5 with h5 | h5
    · exact .inl (h5 ▸ hg)
    · rw [hg] at h5
      simp only [Option.some.injEq] at h5
      subst h5
      exact .inr ⟨hw.ext.size, fun k hk => hw.lt hk⟩
  · intro k' hk'
    show k' ∈ v.ownBlock.toList ∨ _
    replace hk' : k' ∈ v'.ownBlock.toList := hk'
    rcases h5 with h5 | h5
    · exact .inl (h5 ▸ hk')
    · rw [h5] at hk'
      simp at hk'
      exact .inr (by omega)
  · show v'.ownBlock.toList.Nodup
    cases v'.ownBlock <;> simp
/-- append of what was just built for it ('append(out, x)'): the block that was built goes out of sight. -/
theorem RW.append1 {x y : Operand} {t e sz by_ : Nat} {z : List Value} {v : Value} {m : Nat} {xs : List Value} {g : Nat} {k c : Nat} {te : TypeId} {news : List Value} {cs' : Value → List Chunk} {cs0 : List Chunk} (ht : SlT P t e sz by_ z) (hd : Nat.blt d n = true)
    (hx : ev l x = some v) (hy : ev l y = some (.slice (some ⟨g, 0, none⟩) k c)) (hr : Rem cs (blk g news te) cs0) (hu : ∀ v', Upd cs0 (own e sz v m xs) (own e sz v' (m + k) (xs ++ news)) (cs' v'))
    (hl : news.length = k * sz) (h1 : Ones news) (h63 : m + k ≤ maxLen) (hbytes : (m + k) * by_ ≤ 140737488355328)
    (h : ∀ v', (∀ g, v'.ownBlock = some g → v.ownBlock = some g ∨ (b.heap.size ≤ g ∧ ∀ k ∈ feet cs, k < g)) → RW P n ops Q rest ((d, v') :: l) (SH b S (cs' v'))) :
    RW P n ops Q (⟨some d, .call ⟨.builtin .append, #[x, y], #[t, t]⟩, ty, pos, af, none⟩ :: rest) l (SH b S cs) := by
  obtain ⟨i, zv, hi1, hz, hzc, hs, hby⟩ := ht.inf
  refine RW.step hd fun ρ w hρ hw => ?_
  have hw0 := hw.rem hr
  have hown := hw0.has (hu v).has
  have hg : (blk g news te).pred w := by
    obtain ⟨l1, r1, h1', _⟩ := hr.split
    exact hw.all _ (by simp [h1'])
  obtain ⟨v', w', hrun, h2, h3, _, h5⟩ := run_append_own_at (P := P) w 0 t ty e i zv sz by_ ht.und hi1 hz hs hby (by rw [← Array.length_toList, hzc, ht.len]) ht.pos v m xs hown ⟨g, 0, none⟩ k c news hl
    (fun j u hj => by
      rw [Addr.add_lit, cell_of_row w g (0 + j) news.toArray te (0, 0) hg]
      simpa using hj) h1 h63 hbytes (Nat.zero_le _)
  refine ⟨v', w', ?_, (h v' ?_).at (hw0.upd (hu v') (Ext.of_grown h3) h2 ?_ ?_)⟩
  · simp [execOp, resolve, invoke, builtin, hρ x _ hx, hρ y _ hy, hrun]
  · intro g hg
    rcases h5 with h5 | h5
    · exact .inl (h5 ▸ hg)
    · rw [hg] at h5
      simp only [Option.some.injEq] at h5
      subst h5
      exact .inr ⟨hw.ext.size, fun k hk => hw.lt hk⟩
  · intro k' hk'
    show k' ∈ v.ownBlock.toList ∨ _
    replace hk' : k' ∈ v'.ownBlock.toList := hk'
    rcases h5 with h5 | h5
    · exact .inl (h5 ▸ hk')
    · rw [h5] at hk'
      simp at hk'
      exact .inr (by omega)
  · show v'.ownBlock.toList.Nodup
    cases v'.ownBlock <;> simp

/- CALLS -/
structure CaT (P : Program) (f : FuncId) : Prop where
  prf : ∃ fn, P.funcs[f]? = some fn ∧ (fn.name == "runtime.NumGoroutine") = false ∧ fn.body.isNone = false
theorem run_callFunc {f : FuncId} (h : CaT P f) (args : Array Value) (w : World) : (callFunc f args).run P w = .ok (.enter f args) w := by
  obtain ⟨fn, h1, h2, h3⟩ := h.prf
  simp only [callFunc, Sem.run_bind, run_program, Result.andThen_ok, h1, h2, h3, Bool.false_eq_true, if_false]
  rfl
section
variable {H : World → Prop} {fo : Operand} {args : List Operand} {tys : Array TypeId} {f : FuncId} {vs : List Value}
theorem RW.callG {first cap : Array Value} (hf : ev l fo = some (.func (.func f) first cap)) (hd : Nat.blt d n = true) (hcb : CaT P f) (hargs : evs l args = some vs)
    (h : ∀ w, H w → Calls P f (first ++ vs.toArray ++ cap) w (fun e w' => ∃ v, e = .returned v ∧ RW P n ops Q rest ((d, v) :: l) (fun x => x = w'))) :
    RW P n ops Q (⟨some d, .call ⟨.value fo, args.toArray, tys⟩, ty, pos, af, none⟩ :: rest) l H := by
  intro w hw a ha
  have hρ : Evs l a.eval := fun x v hx => ha.ev hx
  unfold wpList
  rw [if_pos (by simp [Region.wanted])]
  refine .inl ?_
  have hrun : (execOp a.eval ⟨some d, .call ⟨.value fo, args.toArray, tys⟩, ty, pos, af, none⟩).run P w = .ok (.enter f (first ++ vs.toArray ++ cap)) w := by
    simp [execOp, resolve, hρ fo _ hf, Deferred.ofValue, invoke, hρ.list _ _ hargs, run_callFunc hcb]
  simp only [Oper.wp, hrun, Oper.upon_enter]
  refine (h w hw).mono ?_
  rintro e w' ⟨v, rfl, hk⟩
  exact hk w' rfl _ (ha.put (Nat.le_of_ble_eq_true hd) v)
theorem RW.callG0 {first cap : Array Value} (hf : ev l fo = some (.func (.func f) first cap)) (hcb : CaT P f) (hargs : evs l args = some vs)
    (h : ∀ w, H w → Calls P f (first ++ vs.toArray ++ cap) w (fun e w' => ∃ v, e = .returned v ∧ RW P n ops Q rest l (fun x => x = w'))) :
    RW P n ops Q (⟨none, .call ⟨.value fo, args.toArray, tys⟩, ty, pos, af, none⟩ :: rest) l H := by
  intro w hw a ha
  have hρ : Evs l a.eval := fun x v hx => ha.ev hx
  unfold wpList
  rw [if_pos (by simp [Region.wanted])]
  refine .inl ?_
  have hrun : (execOp a.eval ⟨none, .call ⟨.value fo, args.toArray, tys⟩, ty, pos, af, none⟩).run P w = .ok (.enter f (first ++ vs.toArray ++ cap)) w := by
    simp [execOp, resolve, hρ fo _ hf, Deferred.ofValue, invoke, hρ.list _ _ hargs, run_callFunc hcb]
  simp only [Oper.wp, hrun, Oper.upon_enter]
  refine (h w hw).mono ?_
  rintro e w' ⟨v, rfl, hk⟩
  exact hk w' rfl _ ha
end
/-- A call of a function whose answer is known and that turns nothing that was there. -/
theorem RW.call {args : List Operand} {tys : Array TypeId} {f : FuncId} {vs : List Value} {v : Value} (hd : Nat.blt d n = true) (hcb : CaT P f) (hargs : evs l args = some vs)
    (hC : ∀ w, SH b S cs w → Calls P f vs.toArray w (fun e w' => e = .returned v ∧ Ext [] w w'))
    (h : RW P n ops Q rest ((d, v) :: l) (SH b S cs)) :
    RW P n ops Q (⟨some d, .call ⟨.value (.func f), args.toArray, tys⟩, ty, pos, af, none⟩ :: rest) l (SH b S cs) := by
  refine RW.callG rfl hd hcb hargs fun w hw => ?_
  have := hC w hw
  simp only [Array.empty_append, Array.append_empty]
  refine this.mono ?_
  rintro e w' ⟨rfl, he⟩
  exact ⟨v, rfl, h.at (hw.keep he)⟩
/-- A call whose answer lies in memory: the world behind it becomes the one on which facts are told. -/
theorem RW.callN {args : List Operand} {tys : Array TypeId} {f : FuncId} {vs : List Value} (Φ : World → Value → World → Prop) (hd : Nat.blt d n = true) (hcb : CaT P f) (hargs : evs l args = some vs)
    (hC : ∀ w, SH b S cs w → Calls P f vs.toArray w (fun e w' => ∃ v, e = .returned v ∧ Ext [] w w' ∧ Φ w v w'))
    (h : ∀ w v w1, SH b S cs w → Ext [] w w1 → Φ w v w1 → Ext S b w1 → (∀ k ∈ feet cs, k < w.heap.size) → RW P n ops Q rest ((d, v) :: l) (SH w1 (feet cs) cs)) :
    RW P n ops Q (⟨some d, .call ⟨.value (.func f), args.toArray, tys⟩, ty, pos, af, none⟩ :: rest) l (SH b S cs) := by
  refine RW.callG rfl hd hcb hargs fun w hw => ?_
  have := hC w hw
  simp only [Array.empty_append, Array.append_empty]
  refine this.mono ?_
  rintro e w' ⟨v, rfl, he, hp⟩
  exact ⟨v, rfl, (h w v w' hw he hp (hw.ext.trans0 he) (fun k hk => hw.lt hk)).at (hw.keep he).rebase⟩
end
end Go.Proofs.Ytjmmikdbhhomiaa.Mq
