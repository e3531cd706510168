/-
  SLICES THAT READ AS LISTS: 'Rd': a slice value reads, in a world, as a list of elements, each told by its cells.
-/
import Derived.Test.YtjmmikdbhhomiaaMem
namespace Go.Proofs.Ytjmmikdbhhomiaa.Mq
open Go Go.RowKit

theorem add_add (a : Addr) (i j : Nat) : (a.add i).add j = a.add (i + j) := by
  unfold Addr.add
  by_cases hi : i = 0 <;> by_cases hj : j = 0 <;> simp [hi, hj, Nat.add_assoc]
theorem block_add (a : Addr) (i : Nat) : (a.add i).block = a.block := by unfold Addr.add; split <;> rfl

/-- How an element lies in cells. -/
structure Enc (α : Type) where
  enc : α → List Value
  sz : Nat
  len : ∀ a, (enc a).length = sz
  ones : ∀ a, Ones (enc a)
section
variable {α : Type} (E : Enc α)
def Enc.all (l : List α) : List Value := l.flatMap E.enc
theorem Enc.all_length (l : List α) : (E.all l).length = l.length * E.sz := by
  induction l with
  | nil => simp [Enc.all]
  | cons a l ih => simp only [Enc.all, List.flatMap_cons, List.length_append, E.len, List.length_cons] at *; rw [ih, Nat.add_mul]; omega
theorem Enc.all_append (l r : List α) : E.all (l ++ r) = E.all l ++ E.all r := by simp [Enc.all]
theorem Enc.all_snoc (l : List α) (a : α) : E.all (l ++ [a]) = E.all l ++ E.enc a := by simp [Enc.all]
theorem Enc.all_get {l : List α} {k : Nat} {a : α} (hk : l[k]? = some a) {j : Nat} {u : Value} (hu : (E.enc a)[j]? = some u) : (E.all l)[k * E.sz + j]? = some u := by
  induction l generalizing k with
  | nil => simp at hk
  | cons b l ih =>
    have hall : E.all (b :: l) = E.enc b ++ E.all l := by simp [Enc.all]
    have hj : j < E.sz := by
      have := (List.getElem?_eq_some_iff.1 hu).1
      rwa [E.len] at this
    rw [hall]
    cases k with
    | zero =>
      simp only [List.getElem?_cons_zero, Option.some.injEq] at hk
      subst hk
      rw [Nat.zero_mul, Nat.zero_add, List.getElem?_append_left (by rw [E.len]; exact hj)]
      exact hu
    | succ k =>
      simp only [List.getElem?_cons_succ] at hk
      rw [List.getElem?_append_right (by rw [E.len, Nat.add_mul]; omega), E.len]
      have : (k + 1) * E.sz + j - E.sz = k * E.sz + j := by rw [Nat.add_mul]; omega
      rw [this]
      exact ih hk
theorem Enc.all_ones (l : List α) : Ones (E.all l) := by
  intro u hu
  obtain ⟨a, _, ha⟩ := List.mem_flatMap.1 hu
  exact E.ones a u ha
end

theorem Enc.all_set {α : Type} (E : Enc α) {L : List α} {i j : Nat} {a a' : α} {v : Value} (hi : L[i]? = some a) (hj : j < E.sz) (ha : E.enc a' = (E.enc a).set j v) : (E.all L).set (i * E.sz + j) v = E.all (L.set i a') := by
  induction L generalizing i with
  | nil => simp at hi
  | cons b L ih =>
    have hall : ∀ (x : α) (l : List α), E.all (x :: l) = E.enc x ++ E.all l := fun x l => by simp [Enc.all]
    cases i with
    | zero =>
      simp only [List.getElem?_cons_zero, Option.some.injEq] at hi
      subst hi
      rw [List.set_cons_zero, hall, hall, ha, Nat.zero_mul, Nat.zero_add, List.set_append_left _ _ (by rw [E.len]; exact hj)]
    | succ i =>
      simp only [List.getElem?_cons_succ] at hi
      rw [List.set_cons_succ, hall, hall, List.set_append_right _ _ (by rw [E.len, Nat.add_mul]; omega), E.len]
      have : (i + 1) * E.sz + j - E.sz = i * E.sz + j := by rw [Nat.add_mul]; omega
      rw [this, ih hi]
/-- The slice value '.slice A n c' reads as the list l; its block is one of F. -/
structure Rd {α : Type} (E : Enc α) (w : World) (F : Nat → Prop) (A : Option Addr) (n c : Nat) (l : List α) : Prop where
  len : l.length = n
  cap : n ≤ c
  max : c ≤ maxLen
  cells : 0 < n → ∃ ad, A = some ad ∧ F ad.block ∧ ∀ k a j u, l[k]? = some a → (E.enc a)[j]? = some u → w.cell? ((ad.add (k * E.sz)).add j) = some u

section
variable {α : Type} {E : Enc α} {w w' : World} {F : Nat → Prop} {A : Option Addr} {n c : Nat} {l : List α}
theorem Rd.nil (E : Enc α) (w : World) (F : Nat → Prop) (c : Nat) (hc : c ≤ maxLen) (A : Option Addr) : Rd E w F A 0 c [] := ⟨rfl, Nat.zero_le _, hc, fun h => absurd h (by omega)⟩
theorem Rd.ext {S : List Nat} (h : Rd E w F A n c l) (he : Ext S w w') (hs : ∀ k, F k → k ∉ S) : Rd E w' F A n c l := by
  refine ⟨h.len, h.cap, h.max, fun hn => ?_⟩
  obtain ⟨ad, hA, hF, hc⟩ := h.cells hn
  refine ⟨ad, hA, hF, fun k a j u hk hj => ?_⟩
  have := hc k a j u hk hj
  rw [he.cell (World.block_lt_of_cell? _ _ this) (by rw [block_add, block_add]; exact hs _ hF)]
  exact this
theorem Rd.ext0 (h : Rd E w F A n c l) (he : Ext [] w w') : Rd E w' F A n c l := by
  refine ⟨h.len, h.cap, h.max, fun hn => ?_⟩
  obtain ⟨ad, hA, hF, hc⟩ := h.cells hn
  refine ⟨ad, hA, hF, fun k a j u hk hj => ?_⟩
  have := hc k a j u hk hj
  rw [he.cell (World.block_lt_of_cell? _ _ this) (by simp)]
  exact this
theorem Rd.weak {F' : Nat → Prop} (h : Rd E w F A n c l) (hF : ∀ k, F k → F' k) : Rd E w F' A n c l := by
  refine ⟨h.len, h.cap, h.max, fun hn => ?_⟩
  obtain ⟨ad, hA, hf, hc⟩ := h.cells hn
  exact ⟨ad, hA, hF _ hf, hc⟩
/-- What an owned slice reads as. -/
theorem Rd.of_own {e : Nat} {v : Value} {m : Nat} (h : w.ownsRow 0 e E.sz v m (E.all l)) (hm : l.length = m) : ∃ A c, v = .slice A m c ∧ Rd E w (fun k => v.ownBlock = some k) A m c l := by
  rcases h.2 with ⟨rfl, rfl⟩ | ⟨g, cap, cur, rfl, _, hg, h1, h2, _⟩
  · exact ⟨none, 0, rfl, ⟨hm, Nat.le_refl _, by decide, fun h => absurd h (by omega)⟩⟩
  · refine ⟨_, cap, rfl, ⟨hm, h1, h2, fun _ => ⟨⟨g, 0, none⟩, rfl, rfl, fun k a j u hk hj => ?_⟩⟩⟩
    rw [add_add]
    exact h.cells rfl _ _ (E.all_get hk hj)
end

/- RULES over owned slices -/
section
variable {P : Program} {n : Nat} {ops : Array Oper} {Q : Post} {rest : List Oper} {l : Fr} {d : Nat} {ty : TypeId} {pos : String} {af : Array Edge}
variable {b : World} {S : List Nat} {cs : List Chunk}
theorem own_form {w : World} {e sz m : Nat} {v : Value} {xs : List Value} (h : w.ownsRow 0 e sz v m xs) : ∃ A c, v = .slice A m c := by
  rcases h.2 with ⟨rfl, rfl⟩ | ⟨g, cap, cur, rfl, _⟩
  · exact ⟨none, 0, rfl⟩
  · exact ⟨_, cap, rfl⟩
theorem run_storeCells_own {e sz m : Nat} {g c : Nat} : ∀ (vs : List Value) (xs : List Value) (w : World) (o i : Nat), w.ownsRow 0 e sz (.slice (some ⟨g, 0, none⟩) m c) m xs → o + i + vs.length ≤ xs.length → Ones vs →
    ∃ w', (storeCells (⟨g, o, none⟩ : Addr) vs i).run P w = .ok () w' ∧ w'.ownsRow 0 e sz (.slice (some ⟨g, 0, none⟩) m c) m (splice xs (o + i) vs) ∧ Ext [g] w w'
  | [], xs, w, o, i, h, _, _ => ⟨w, by simp [storeCells], by simpa [splice] using h, Ext.refl _ _⟩
  | v :: vs, xs, w, o, i, h, hl, h1 => by
    simp only [List.length_cons] at hl
    have hadd : (⟨g, o, none⟩ : Addr).add i = ⟨g, o + i, none⟩ := Addr.add_lit g o i
    have hlen := h.1
    rcases h.2 with ⟨he, _⟩ | ⟨g', cap, cur, he, hb0, hg, h3, h4, h5, h6⟩
    · cases he
    · injection he with he1 he2 he3
      simp only [Option.some.injEq, Addr.mk.injEq, and_true] at he1
      subst he1; subst he3
      have hsz : o + i < cur.size := by
        rw [h5]
        have : m * sz ≤ c * sz := Nat.mul_le_mul_right _ h3
        omega
      have hc : w.cell? ⟨g, o + i, none⟩ = some cur[o + i] := by
        rw [cell_of_row w g (o + i) cur e (0, 0) hg]
        simp [hsz]
      have hf : w.frozen? ⟨g, o + i, none⟩ = false := by simp [World.frozen?, hg]
      have h' : (w.setCell ⟨g, o + i, none⟩ v).ownsRow 0 e sz (.slice (some ⟨g, 0, none⟩) m c) m (xs.set (o + i) v) := by
        refine ⟨by simpa using hlen, .inr ⟨g, c, cur.setIfInBounds (o + i) v, rfl, hb0, by simp [World.setCell, Array.getElem?_modify, hg], h3, h4, by simpa using h5, ?_⟩⟩
        rw [Array.toList_setIfInBounds, ← h6]
        rw [List.take_set]
      obtain ⟨w', hr, hw', he⟩ := run_storeCells_own (m := m) vs (xs.set (o + i) v) (w.setCell ⟨g, o + i, none⟩ v) o (i + 1) h' (by simp; omega) (fun u hu => h1 u (by simp [hu]))
      refine ⟨w', ?_, by simpa [splice, Nat.add_assoc] using hw', (Ext.setCell w ⟨g, o + i, none⟩ v).trans he (by simp)⟩
      have hst := run_store P w ⟨g, o + i, none⟩ v .plain (h1 v (by simp))
      simp only [storeCells, hadd, Sem.run_bind, hst, hc, hf]
      simpa using hr
theorem SH.storeOwn {w : World} {e sz m g c : Nat} {xs : List Value} {cs' : List Chunk} (h : SH b S cs w) {o : Nat} {vs : List Value} (hl : o + vs.length ≤ xs.length) (h1 : Ones vs)
    (hu : Upd cs (own e sz (.slice (some ⟨g, 0, none⟩) m c) m xs) (own e sz (.slice (some ⟨g, 0, none⟩) m c) m (splice xs o vs)) cs') :
    ∃ w', (storeCells (⟨g, o, none⟩ : Addr) vs 0).run P w = .ok () w' ∧ SH b S cs' w' := by
  obtain ⟨w', hr, hw', he⟩ := run_storeCells_own (P := P) vs xs w o 0 (h.has hu.has) (by simpa using hl) h1
  exact ⟨w', hr, h.upd hu he hw' (fun k hk => .inl hk) (by simp [own, Value.ownBlock])⟩
/-- a store of a whole element, or of a field of one, into an owned slice; the address as it was come to -/
theorem RW.storeOwn1 {x y : Operand} {t : Nat} {z v : Value} {p : Addr} {e sz m g c o : Nat} {xs : List Value} {cs' : List Chunk} (ht : ScT P t z) (hx : ev l x = some (.pointer (some p))) (hy : ev l y = some v) (hu : Upd cs (own e sz (.slice (some ⟨g, 0, none⟩) m c) m xs) (own e sz (.slice (some ⟨g, 0, none⟩) m c) m (xs.set o v)) cs') (hp : p = ⟨g, o, none⟩)
    (h1 : v.oneCell' = true) (hl : o < xs.length)
    (h : RW P n ops Q rest l (SH b S cs')) : RW P n ops Q (⟨none, .store t x y, ty, pos, af, none⟩ :: rest) l (SH b S cs) := by
  subst hp
  obtain ⟨i, h3, _, h4⟩ := ht.inf
  refine RW.step0 fun ρ w hρ hw => ?_
  obtain ⟨w', hr, hw'⟩ := hw.storeOwn (P := P) (vs := [v]) hl (by simpa [Ones] using h1) hu
  refine ⟨w', ?_, h.at hw'⟩
  simp [execOp, Instr.storeAt, hρ x _ hx, hρ y _ hy, Instr.sureAddr, storeVar, run_sizeOf h3, h4, oneCell_cells h1, hr]
theorem RW.storeOwnA {x y : Operand} {t sz' : Nat} {z vs : List Value} {p : Addr} {e sz m g c o : Nat} {xs : List Value} {cs' : List Chunk} (ht : AgT P t sz' z) (hx : ev l x = some (.pointer (some p))) (hy : ev l y = some (.agg vs.toArray)) (hu : Upd cs (own e sz (.slice (some ⟨g, 0, none⟩) m c) m xs) (own e sz (.slice (some ⟨g, 0, none⟩) m c) m (splice xs o vs)) cs') (hp : p = ⟨g, o, none⟩)
    (hs : vs.length = sz') (h1 : Ones vs) (hl : o + vs.length ≤ xs.length)
    (h : RW P n ops Q rest l (SH b S cs')) : RW P n ops Q (⟨none, .store t x y, ty, pos, af, none⟩ :: rest) l (SH b S cs) := by
  subst hp
  obtain ⟨i, h3, _, h4⟩ := ht.inf
  refine RW.step0 fun ρ w hρ hw => ?_
  obtain ⟨w', hr, hw'⟩ := hw.storeOwn (P := P) hl h1 hu
  refine ⟨w', ?_, h.at hw'⟩
  simp [execOp, Instr.storeAt, hρ x _ hx, hρ y _ hy, Instr.sureAddr, storeVar, run_sizeOf h3, h4, hs, Value.cells, hr]
theorem RW.formOwn {e sz m : Nat} {v : Value} {xs : List Value} (hb : Has cs (own e sz v m xs)) (h : ∀ A c, v = .slice A m c → m ≤ c → c ≤ maxLen → xs.length = m * sz → (0 < m → ∃ g, A = some ⟨g, 0, none⟩) → RW P n ops Q rest l (SH b S cs)) : RW P n ops Q rest l (SH b S cs) := by
  intro w hw
  have := hw.has hb
  rcases this.2 with ⟨rfl, h0⟩ | ⟨g, cap, cur, rfl, _, _, h3, h4, _⟩
  · exact h none 0 (by rw [h0]) (by omega) (by decide) this.1 (fun hp => absurd hp (by omega)) w hw
  · exact h _ cap rfl h3 h4 this.1 (fun _ => ⟨g, rfl⟩) w hw
theorem CW.formOwn {cd : Code} {e sz m : Nat} {v : Value} {xs : List Value} (hb : Has cs (own e sz v m xs)) (h : ∀ A c, v = .slice A m c → m ≤ c → c ≤ maxLen → xs.length = m * sz → (0 < m → ∃ g, A = some ⟨g, 0, none⟩) → CW P n cd Q l (SH b S cs)) : CW P n cd Q l (SH b S cs) := by
  intro w hw
  have := hw.has hb
  rcases this.2 with ⟨rfl, h0⟩ | ⟨g, cap, cur, rfl, _, _, h3, h4, _⟩
  · exact h none 0 (by rw [h0]) (by omega) (by decide) this.1 (fun hp => absurd hp (by omega)) w hw
  · exact h _ cap rfl h3 h4 this.1 (fun _ => ⟨g, rfl⟩) w hw
theorem SH.own_cell {w : World} (h : SH b S cs w) {e sz m g c o : Nat} {xs : List Value} (hc : Has cs (own e sz (.slice (some ⟨g, 0, none⟩) m c) m xs)) {v : Value} (hv : xs[o]? = some v) : w.cell? ⟨g, o, none⟩ = some v := by
  have := (h.has hc).cells (g := g) rfl o v hv
  rwa [Addr.add_lit, Nat.zero_add] at this
/-- an element's or a field's address in an array -/
theorem RW.ixArr {H : World → Prop} {x i : Operand} {t e len sz : Nat} {p : Addr} {q : Nat} {k : IntKind} {j : Int} (ht : P.underlying t = some (.array len e)) (hsz : (P.info? e).map (·.size) = some sz) (hd : Nat.blt d n = true) (hx : ev l x = some (.pointer (some p))) (hi : ev l i = some (.int k j))
    (hj : j = (q : Int)) (hlt : q < len)
    (h : RW P n ops Q rest ((d, .pointer (some (p.add (q * sz)))) :: l) H) : RW P n ops Q (⟨some d, .indexAddr t x i, ty, pos, af, none⟩ :: rest) l H := by
  subst hj
  cases hi1 : P.info? e with
  | none => simp [hi1] at hsz
  | some inf =>
    have hs : inf.size = sz := by simpa [hi1] using hsz
    refine RW.val _ hd (fun ρ w hρ => ?_) h
    simp [execOp, hρ x _ hx, hρ i _ hi, Instr.indexAt, asIntOf, run_underlying ht, run_sizeOf hi1, hs, Instr.sureAddr]
    omega
end

theorem Ones.nil : Ones [] := fun _ h => by simp at h
theorem Ones.cons {v : Value} {vs : List Value} (h : v.oneCell' = true) (hs : Ones vs) : Ones (v :: vs) := fun u hu => by
  rcases List.mem_cons.1 hu with rfl | hu
  · exact h
  · exact hs u hu
theorem FlT.of1 {P : Program} {s i off : Nat} (h : (match P.underlying s with
    | some (.struct fs) => match fs[i]? with
      | some f => match P.info? f.type with
        | some j => Nat.ble 1 j.size && Nat.beq f.offset off
        | none => false
      | none => false
    | _ => false) = true) : FlT P s i off := by
  split at h
  · rename_i fs h1
    split at h
    · rename_i f h2
      split at h
      · rename_i j h3
        simp only [Bool.and_eq_true] at h
        have := Nat.le_of_ble_eq_true h.1
        exact ⟨fs, f, j, h1, h2, h3, by omega, Nat.eq_of_beq_eq_true h.2⟩
      · cases h
    · cases h
  · cases h
theorem CaT.of {P : Program} {f : FuncId} {fn : Func} (h1 : P.funcs[f]? = some fn) (h2 : (fn.name == "runtime.NumGoroutine") = false) (h3 : fn.body.isNone = false) : CaT P f := ⟨fn, h1, h2, h3⟩

/- WHAT IS BUILT -/
def putAt (cells : List Value) (off : Nat) (vs : List Value) : List Value := splice cells off vs
def fillL (place : Nat → Option (Nat × Nat)) (cells : List Value) : List (Nat × Value) → Option (List Value)
  | [] => some cells
  | (i, v) :: rest => match place i with
    | none => none
    | some (off, size) => match Nat.beq v.cells.toList.length size, Nat.ble (off + v.cells.toList.length) cells.length with
      | true, true => fillL place (putAt cells off v.cells.toList) rest
      | _, _ => none
theorem foldl_splice : ∀ (vs : List Value) (k : Nat) (xs : List Value) (off : Nat),
    ((vs.zipIdx k).foldl (fun (cs : Array Value) (x : Value × Nat) => cs.setIfInBounds (off + x.2) x.1) xs.toArray) = (splice xs (off + k) vs).toArray
  | [], k, xs, off => by simp [splice]
  | v :: vs, k, xs, off => by
    simp only [List.zipIdx_cons, List.foldl_cons, List.setIfInBounds_toArray, splice]
    rw [foldl_splice vs (k + 1) (xs.set (off + k) v) off, Nat.add_assoc]
theorem fillL_ok : ∀ (ps : List (Nat × Value)) (place : Nat → Option (Nat × Nat)) (cells out : List Value), fillL place cells ps = some out → Instr.fill place cells.toArray ps = some out.toArray
  | [], place, cells, out, h => by simp only [fillL, Option.some.injEq] at h; subst h; rfl
  | (i, v) :: rest, place, cells, out, h => by
    simp only [fillL] at h
    unfold Instr.fill
    cases hp : place i with
    | none => rw [hp] at h; cases h
    | some os =>
      obtain ⟨off, size⟩ := os
      rw [hp] at h
      simp only at h ⊢
      split at h
      · rename_i h1 h2
        have h1' := Nat.eq_of_beq_eq_true h1
        have h2' := Nat.le_of_ble_eq_true h2
        rw [if_neg (by
          simp only [Array.length_toList] at h1' h2'
          simp [h1', List.size_toArray]
          omega)]
        have hf := foldl_splice v.cells.toList 0 cells off
        rw [Nat.add_zero] at hf
        have e : Array.foldl (fun (cs : Array Value) (x : Value × Nat) => cs.setIfInBounds (off + x.2) x.1) cells.toArray v.cells.zipIdx = (splice cells off v.cells.toList).toArray := by
          rw [← hf, ← Array.foldl_toList, Array.toList_zipIdx]
        exact (congrArg (fun z => Instr.fill place z rest) e).trans (fillL_ok rest place _ out h)
      · cases h
structure BuT (P : Program) (t : TypeId) (pl : List (Nat × Nat)) (z : List Value) : Prop where
  prf : ∃ fs i, P.underlying t = some (.struct fs) ∧ P.info? t = some i ∧ i.zero = some (.agg z.toArray) ∧ fs.toList.map (fun f => (f.offset, (P.info? f.type).map (·.size))) = pl.map (fun p => (p.1, some p.2))
theorem BuT.of {P : Program} {t : TypeId} {pl : List (Nat × Nat)} {z : List Value}
    (h1 : (match P.underlying t with | some (.struct fs) => some (fs.toList.map (fun f => (f.offset, (P.info? f.type).map (·.size)))) | _ => none) = some (pl.map (fun p => (p.1, some p.2))))
    (h2 : (P.info? t).map (·.zero) = some (some (.agg z.toArray))) : BuT P t pl z := by
  split at h1
  · rename_i fs hu
    cases hi : P.info? t with
    | none => simp [hi] at h2
    | some i => exact ⟨fs, i, hu, hi, by simpa [hi] using h2, by simpa using h1⟩
  · cases h1
theorem run_mapM_sizes {P : Program} {w : World} : ∀ (fs : List Field) (pl : List (Nat × Nat)), fs.map (fun f => (f.offset, (P.info? f.type).map (·.size))) = pl.map (fun p => (p.1, some p.2)) →
    (fs.mapM (fun f => (do pure (f.offset, ← sizeOf f.type) : Sem (Nat × Nat)))).run P w = .ok pl w
  | [], pl, h => by
    cases pl with
    | nil => rfl
    | cons p pl => simp at h
  | f :: fs, pl, h => by
    cases pl with
    | nil => simp at h
    | cons p pl =>
      simp only [List.map_cons, List.cons.injEq, Prod.mk.injEq] at h
      obtain ⟨⟨h1, h2⟩, h3⟩ := h
      have ih := run_mapM_sizes (P := P) (w := w) fs pl h3
      cases hi : P.info? f.type with
      | none => simp [hi] at h2
      | some i =>
        have h2' : i.size = p.2 := by simpa [hi] using h2
        simp only [List.mapM_cons, Sem.run_bind, run_sizeOf hi, Result.andThen_ok, Sem.run_pure] at ih ⊢
        rw [ih]
        simp [h1, h2']
theorem run_build {P : Program} {t : TypeId} {pl : List (Nat × Nat)} {z out : List Value} {ps : List (Nat × Value)} {w : World} (h : BuT P t pl z) (hf : fillL (fun i => pl[i]?) z ps = some out) :
    (Instr.build t ps.toArray).run P w = .ok (.agg out.toArray) w := by
  obtain ⟨fs, i, h1, h2, h3, h4⟩ := h.prf
  have hm : (fs.mapM (fun f => (do pure (f.offset, ← sizeOf f.type) : Sem (Nat × Nat)))).run P w = .ok pl.toArray w := by
    rw [Array.mapM_eq_mapM_toList]
    have := run_mapM_sizes (P := P) (w := w) fs.toList pl h4
    simp only [Sem.run_map, this, Result.andThen_ok]
  have hok := fillL_ok ps (fun i => pl[i]?) z out hf
  unfold Instr.build
  simp only [Sem.run_bind, run_zeroValue h2 h3, Result.andThen_ok, run_underlying h1, hm]
  have e : Instr.fill (fun x => pl.toArray[x]?) (Value.agg z.toArray).cells ps = some out.toArray := by
    simpa [Value.cells] using hok
  simp only [List.getElem?_toArray] at e ⊢
  simp only [e]
  rfl
structure BaT (P : Program) (t sz : TypeId) (z : List Value) : Prop where
  prf : ∃ len e i j, P.underlying t = some (.array len e) ∧ P.info? t = some i ∧ i.zero = some (.agg z.toArray) ∧ P.info? e = some j ∧ j.size = sz
theorem BaT.of {P : Program} {t sz : TypeId} {z : List Value}
    (h1 : (match P.underlying t with | some (.array _ e) => (P.info? e).map (·.size) | _ => none) = some sz)
    (h2 : (P.info? t).map (·.zero) = some (some (.agg z.toArray))) : BaT P t sz z := by
  split at h1
  · rename_i len e hu
    cases hi : P.info? t with
    | none => simp [hi] at h2
    | some i => cases hj : P.info? e with
      | none => simp [hj] at h1
      | some j => exact ⟨len, e, i, j, hu, hi, by simpa [hi] using h2, hj, by simpa [hj] using h1⟩
  · cases h1
theorem run_buildR {P : Program} {t sz : TypeId} {z out : List Value} {ps : List (Nat × Value)} {w : World} (h : BaT P t sz z) (hf : fillL (fun i => some (i * sz, sz)) z ps = some out) :
    (Instr.build t ps.toArray).run P w = .ok (.agg out.toArray) w := by
  obtain ⟨len, e, i, j, h1, h2, h3, h4, h5⟩ := h.prf
  have hok := fillL_ok ps _ z out hf
  unfold Instr.build
  simp only [Sem.run_bind, run_zeroValue h2 h3, Result.andThen_ok, run_underlying h1, run_sizeOf h4, h5]
  have e : Instr.fill (fun i => some (i * sz, sz)) (Value.agg z.toArray).cells ps = some out.toArray := by simpa [Value.cells] using hok
  simp only [e]
  rfl
def evp (l : Fr) : List (Nat × Operand) → Option (List (Nat × Value))
  | [] => some []
  | (i, x) :: xs => match ev l x, evp l xs with
    | some v, some vs => some ((i, v) :: vs)
    | _, _ => none
theorem Evs.parts {l : Fr} {ρ : Operand → Value} (h : Evs l ρ) : ∀ (xs : List (Nat × Operand)) (vs : List (Nat × Value)), evp l xs = some vs → xs.map (fun p => (p.1, ρ p.2)) = vs
  | [], vs, hv => by simp [evp] at hv; simp [hv]
  | (i, x) :: xs, vs, hv => by
    simp only [evp] at hv
    split at hv
    · rename_i v vs' h1 h2
      simp only [Option.some.injEq] at hv
      subst hv
      simp [h x v h1, h.parts xs vs' h2]
    · cases hv
def zeros (z : List Value) : Nat → List Value
  | 0 => []
  | k + 1 => z ++ zeros z k
theorem zeros_length (z : List Value) (k : Nat) : (zeros z k).length = k * z.length := by
  induction k with
  | zero => simp [zeros]
  | succ k ih => simp [zeros, ih, Nat.add_mul]; omega
theorem zeros_get (z : List Value) : ∀ (k i : Nat), i < k * z.length → (zeros z k)[i]? = z[i % z.length]?
  | 0, i, h => by simp at h
  | k + 1, i, h => by
    simp only [zeros]
    by_cases hi : i < z.length
    · rw [List.getElem?_append_left hi, Nat.mod_eq_of_lt hi]
    · rw [List.getElem?_append_right (by omega), zeros_get z k (i - z.length) (by rw [Nat.add_mul] at h; omega)]
      congr 1
      conv => rhs; rw [show i = (i - z.length) + z.length by omega]
      rw [Nat.add_mod_right]
theorem zeros_array (z : List Value) (k : Nat) : ((Array.range (k * z.length)).map (fun x => z.toArray[x % z.toArray.size]!)) = (zeros z k).toArray := by
  apply Array.ext_getElem?
  intro i
  by_cases hi : i < k * z.length
  · have hz : 0 < z.length := Nat.pos_of_ne_zero fun h => by simp [h] at hi
    have hm := Nat.mod_lt i hz
    simp only [Array.getElem?_map, Array.getElem?_range, hi, if_true, Option.map_some, List.getElem?_toArray, zeros_get z k i hi, List.size_toArray]
    rw [List.getElem?_eq_getElem hm]
    simp [hm]
  · rw [Array.getElem?_eq_none (by simp; omega), Array.getElem?_eq_none (by simp [zeros_length]; omega)]
theorem run_buildSlice {P : Program} {t e sz by_ : Nat} {z out : List Value} {len : Nat} {ps : List (Nat × Value)} {w : World} (h : SlT P t e sz by_ z) (hlen : Nat.ble (len * sz) 16777216 = true) (h0 : Nat.beq len 0 = false) (hf : fillL (fun i => some (i * sz, sz)) (zeros z len) ps = some out) :
    (Instr.buildSlice t len ps.toArray).run P w = .ok (.slice (some ⟨w.heap.size, 0, none⟩) len len) (w.alloc (.cells out.toArray e)) := by
  obtain ⟨i, zv, h1, h2, h3, h4, h5⟩ := h.inf
  have hok := fillL_ok ps _ _ out hf
  have hlen' := Nat.le_of_ble_eq_true hlen
  have h0' := Nat.ne_of_beq_eq_false h0
  have hz : len * sz ≠ 0 := Nat.mul_ne_zero h0' (by have := h.pos; omega)
  have hza := zeros_array z len
  rw [h.len] at hza
  have hzc : zv.cells = z.toArray := by rw [← h3]
  unfold Instr.buildSlice
  simp only [Sem.run_bind, run_underlying h.und, Result.andThen_ok, run_sizeOf h1, h4]
  rw [if_neg (by omega), if_neg hz]
  simp only [Sem.run_bind, run_zeroValue h1 h2, Result.andThen_ok, Sem.run_pure, hzc, hza, hok]
  simp [newRow]
section
variable {P : Program} {n : Nat} {ops : Array Oper} {Q : Post} {rest : List Oper} {l : Fr} {d : Nat} {ty : TypeId} {pos : String} {af : Array Edge} {H : World → Prop}
theorem RW.buildS {t : TypeId} {pl : List (Nat × Nat)} {z : List Value} {parts : List (Nat × Operand)} {ps : List (Nat × Value)} {out : List Value} (ht : BuT P t pl z) (hd : Nat.blt d n = true) (hps : evp l parts = some ps) (hf : fillL (fun i => pl[i]?) z ps = some out)
    (h : RW P n ops Q rest ((d, .agg out.toArray) :: l) H) : RW P n ops Q (⟨some d, .build t parts.toArray, ty, pos, af, none⟩ :: rest) l H :=
  RW.val _ hd (fun ρ w hρ => by
    have := hρ.parts _ _ hps
    simp [execOp, this, run_build ht hf]) h
theorem RW.buildR {t sz : TypeId} {z : List Value} {parts : List (Nat × Operand)} {ps : List (Nat × Value)} {out : List Value} (ht : BaT P t sz z) (hd : Nat.blt d n = true) (hps : evp l parts = some ps) (hf : fillL (fun i => some (i * sz, sz)) z ps = some out)
    (h : RW P n ops Q rest ((d, .agg out.toArray) :: l) H) : RW P n ops Q (⟨some d, .build t parts.toArray, ty, pos, af, none⟩ :: rest) l H :=
  RW.val _ hd (fun ρ w hρ => by
    have := hρ.parts _ _ hps
    simp [execOp, this, run_buildR ht hf]) h
theorem RW.buildSlc {t e sz by_ : Nat} {z : List Value} {len : Nat} {parts : List (Nat × Operand)} {ps : List (Nat × Value)} {out : List Value} {b : World} {S : List Nat} {cs : List Chunk} (ht : SlT P t e sz by_ z) (hd : Nat.blt d n = true) (hlen : (Nat.ble (len * sz) 16777216 && !(Nat.beq len 0)) = true)
    (hps : evp l parts = some ps) (hf : fillL (fun i => some (i * sz, sz)) (zeros z len) ps = some out)
    (h : ∀ g, b.heap.size ≤ g → (∀ k ∈ feet cs, k < g) → RW P n ops Q rest ((d, .slice (some ⟨g, 0, none⟩) len len) :: l) (SH b S (blk g out e :: cs))) : RW P n ops Q (⟨some d, .buildSlice t len parts.toArray, ty, pos, af, none⟩ :: rest) l (SH b S cs) :=
  RW.step hd fun ρ w hρ hw => ⟨.slice (some ⟨w.heap.size, 0, none⟩) len len, w.alloc (.cells out.toArray e), by
    have := hρ.parts _ _ hps
    simp only [Bool.and_eq_true, Bool.not_eq_true'] at hlen
    simp [execOp, this, run_buildSlice ht hlen.1 hlen.2 hf], (h w.heap.size hw.ext.size (fun k hk => hw.lt hk)).at (hw.newblk out e)⟩
theorem RW.extract {x : Operand} {i : Nat} {vs : List Value} {v : Value} (hd : Nat.blt d n = true) (hx : ev l x = some (.tuple vs.toArray)) (hv : vs[i]? = some v)
    (h : RW P n ops Q rest ((d, v) :: l) H) : RW P n ops Q (⟨some d, .extract x i, ty, pos, af, none⟩ :: rest) l H :=
  RW.val _ hd (fun ρ w hρ => by simp [execOp, hρ x _ hx, Instr.extract, hv]) h
end

/- CASES ON A BOOL OF THE FRAME; A JOIN BEHIND THEM -/
section
variable {P : Program} {n : Nat} {ops : Array Oper} {Q : Post} {rest : List Oper} {l : Fr} {H : World → Prop} {d : Nat} {ty : TypeId} {pos : String} {af : Array Edge}
theorem RW.casesB {c : Bool} (t : Nat) (_ht : look l t = some (.bool c)) (hT : c = true → RW P n ops Q rest l H) (hF : c = false → RW P n ops Q rest l H) : RW P n ops Q rest l H := by
  cases c
  · exact hF rfl
  · exact hT rfl
theorem CW.condD {cd cd' : Code} {c : Operand} {p : Prop} [Decidable p] (hc : ev l c = some (.bool (decide p))) (ht : p → CW P n cd Q l H) (hf : ¬ p → CW P n cd' Q l H) : CW P n (.cond c cd cd') Q l H :=
  CW.cond hc (fun h => ht (of_decide_eq_true h)) (fun h => hf (of_decide_eq_false h))
theorem RW.pickB {c x y : Operand} {v : Value} {b : Bool} (hd : Nat.blt d n = true) (hc : ev l c = some (.bool b)) (hb : b = true) (hx : ev l x = some v) (h : RW P n ops Q rest ((d, v) :: l) H) : RW P n ops Q (⟨some d, .pick c x y, ty, pos, af, none⟩ :: rest) l H :=
  RW.pickT hd (hb ▸ hc) hx h
theorem RW.pickC {c x y : Operand} {v : Value} {b : Bool} (hd : Nat.blt d n = true) (hc : ev l c = some (.bool b)) (hb : b = false) (hx : ev l y = some v) (h : RW P n ops Q rest ((d, v) :: l) H) : RW P n ops Q (⟨some d, .pick c x y, ty, pos, af, none⟩ :: rest) l H :=
  RW.pickF hd (hb ▸ hc) hx h
def Jn (l' : Fr) (H' : World → Prop) : Post
  | .normal, l, w => Sub l l' ∧ H' w
  | _, _, _ => False
theorem wpList_app {Q0 Q1 : Exit → Act → World → Prop} : ∀ (r1 r2 : List Oper) (a : Act) (w : World), wpList P ops Q0 r1 a w → (∀ a w, Q0 .normal a w → wpList P ops Q1 r2 a w) → (∀ e a w, e ≠ .normal → Q0 e a w → Q1 e a w) → wpList P ops Q1 (r1 ++ r2) a w
  | [], r2, a, w, h, hn, _ => hn a w h
  | o :: r1, r2, a, w, h, hn, he => by
    unfold wpList at h
    show wpList P ops Q1 (o :: (r1 ++ r2)) a w
    unfold wpList
    split at h
    · rename_i hw
      rw [if_pos hw]
      rcases h with h | ⟨h1, a0, w0, h2⟩
      · refine .inl ?_
        unfold Oper.wp at h ⊢
        generalize (execOp a.eval o).run P w = res at h ⊢
        cases res with
        | ok x w' =>
          cases x with
          | value v => exact wpList_app r1 r2 _ _ h hn he
          | skip => exact wpList_app r1 r2 _ _ h hn he
          | defer d => exact wpList_app r1 r2 _ _ h hn he
          | enter f args =>
            refine Calls.mono h ?_
            intro e w'' hh
            cases e with
            | returned v => exact wpList_app r1 r2 _ _ hh hn he
            | panicked ch => exact he _ _ _ (by simp) hh
            | outgrown => obtain ⟨a0, w0, h2⟩ := hh; exact ⟨a0, w0, he _ _ _ (by simp) h2⟩
          | row r args => exact Rows.mono h fun v w'' hh => wpList_app r1 r2 _ _ hh hn he
          | _ => exact h
        | halt x w' =>
          cases x with
          | panic v => exact he _ _ _ (by simp) h
          | _ => exact h
      · exact .inr ⟨h1, a0, w0, he _ _ _ (by simp) h2⟩
    · rename_i hw
      rw [if_neg hw]
      exact wpList_app r1 r2 _ _ h hn he
theorem RW.join (k : Nat) (l' : Fr) (H' : World → Prop) {r1 r2 : List Oper} (h1 : rest.take k = r1) (h2 : rest.drop k = r2) (ha : RW P n ops (Jn l' H') r1 l H) (hb : RW P n ops Q r2 l' H') : RW P n ops Q rest l H := by
  intro w hw a hag
  have := ha w hw a hag
  rw [← List.take_append_drop k rest, h1, h2]
  refine wpList_app r1 r2 a w this ?_ ?_
  · rintro a w ⟨l1, hl1, hs, hH⟩
    exact hb w hH a (hl1.sub hs)
  · rintro e a w hne ⟨l1, hl1, hq⟩
    cases e <;> first | exact hq.elim | exact absurd rfl hne
theorem EX.jn {l' : Fr} {H' : World → Prop} (hs : Sub l l') (hH : ∀ w, H w → H' w) : EX (Jn l' H') .normal l H := fun w hw => ⟨hs, hH w hw⟩
end
end Go.Proofs.Ytjmmikdbhhomiaa.Mq
