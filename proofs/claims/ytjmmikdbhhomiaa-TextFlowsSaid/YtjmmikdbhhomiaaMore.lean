/-
  MORE RULES: append of a whole slice, make, copy, cuts of slices, callees that write into a chunk.
-/
import Derived.Test.YtjmmikdbhhomiaaStr
import Derived.Laws.MakeOwn
namespace Go.Proofs.Ytjmmikdbhhomiaa.Mq
open Go Go.RowKit

section
variable {P : Program} {n : Nat} {ops : Array Oper} {Q : Post} {rest : List Oper} {l : Fr} {d : Nat} {ty : TypeId} {pos : String} {af : Array Edge}
variable {b : World} {S : List Nat} {cs : List Chunk}

theorem run_append_nil {w : World} {t ty e sz by_ : Nat} {z : List Value} {v : Value} {m c : Nat} {xs : List Value} (ht : SlT P t e sz by_ z) (hown : w.ownsRow 0 e sz v m xs) :
    (Builtin.append_ #[t, t] ty #[v, .slice none 0 c]).run P w = .ok v w := by
  obtain ⟨i, zv, hi1, hz, hzc, hs, hby⟩ := ht.inf
  rcases hown.2 with ⟨rfl, rfl⟩ | ⟨g, cap, cur, rfl, _, _, hnc, _⟩
  · simp [Builtin.append_, run_underlying ht.und, sizeOf, typeInfo, hi1, Builtin.lenOf, Builtin.firstCells]
  · simp [Builtin.append_, run_underlying ht.und, sizeOf, typeInfo, hi1, Builtin.lenOf, Builtin.firstCells, hnc, storeCells]
/-- append(out, src...), src read as a list -/
theorem RW.appendSl {α : Type} {E : Enc α} {x y : Operand} {t e by_ : Nat} {z : List Value} {v : Value} {m : Nat} {xs : List Value} {A : Option Addr} {k c : Nat} {src : List α} {F : Nat → Prop} {cs' : Value → List Chunk} (ht : SlT P t e E.sz by_ z) (hd : Nat.blt d n = true)
    (hx : ev l x = some v) (hy : ev l y = some (.slice A k c)) (hu : ∀ v', Upd cs (own e E.sz v m xs) (own e E.sz v' (m + k) (xs ++ E.all src)) (cs' v'))
    (hsrc : ∀ w, SH b S cs w → Rd E w F A k c src) (h63 : m + k ≤ maxLen) (hbytes : (m + k) * by_ ≤ 140737488355328)
    (h : ∀ v', (∀ g, v'.ownBlock = some g → v.ownBlock = some g ∨ (b.heap.size ≤ g ∧ ∀ k ∈ feet cs, k < g)) → RW P n ops Q rest ((d, v') :: l) (SH b S (cs' v'))) :
    RW P n ops Q (⟨some d, .call ⟨.builtin .append, #[x, y], #[t, t]⟩, ty, pos, af, none⟩ :: rest) l (SH b S cs) := by
  have ht' := ht
  obtain ⟨i, zv, hi1, hz, hzc, hs, hby⟩ := ht.inf
  refine RW.step hd fun ρ w hρ hw => ?_
  have hown : w.ownsRow 0 e E.sz v m xs := hw.has (hu v).has
  have hrd := hsrc w hw
  have huse : ∀ (v' : Value) (w' : World), (Builtin.append_ #[t, t] ty #[v, .slice A k c]).run P w = .ok v' w' → w'.ownsRow 0 e E.sz v' (m + k) (xs ++ E.all src) → w.grownBy w' v.ownBlock → (v'.ownBlock = v.ownBlock ∨ v'.ownBlock = some w.heap.size) →
      ∃ v w', (execOp ρ ⟨some d, .call ⟨.builtin .append, #[x, y], #[t, t]⟩, ty, pos, af, none⟩).run P w = .ok (.value v) w' ∧ RW P n ops Q rest ((d, v) :: l) (fun x => x = w') := by
    intro v' w' hrun h2 h3 h5
    refine ⟨v', w', ?_, (h v' ?_).at (hw.upd (hu v') (Ext.of_grown h3) h2 ?_ ?_)⟩
    · simp [execOp, resolve, invoke, builtin, hρ x _ hx, hρ y _ hy, hrun]
    · intro g hg
      rcases h5 with h5 | h5
      · exact .inl (h5 ▸ hg)
      · rw [hg] at h5
        simp only [Option.some.injEq] at h5
        subst h5
        exact .inr ⟨hw.ext.size, fun k hk => hw.lt hk⟩
    · intro k' hk'
      show k' ∈ v.ownBlock.toList ∨ _
      replace hk' : k' ∈ v'.ownBlock.toList := hk'
      rcases h5 with h5 | h5
      · exact .inl (h5 ▸ hk')
      · rw [h5] at hk'
        simp at hk'
        exact .inr (by omega)
    · show v'.ownBlock.toList.Nodup
      cases v'.ownBlock <;> simp
  rcases Nat.eq_zero_or_pos k with hk | hk
  · subst hk
    have hsl : src = [] := List.eq_nil_of_length_eq_zero hrd.len
    subst hsl
    cases A with
    | none =>
      have hr := run_append_nil (ty := ty) (c := c) ht' hown
      exact huse v w hr (by simpa [Enc.all] using hown) ⟨rfl, rfl, rfl, Nat.le_refl _, fun _ _ _ => rfl⟩ (.inl rfl)
    | some a =>
      obtain ⟨v', w', hrun, h2, h3, _, h5⟩ := run_append_own_at (P := P) w 0 t ty e i zv E.sz by_ ht.und hi1 hz hs hby (by rw [← Array.length_toList, hzc, ht.len]) ht.pos v m xs hown a 0 c [] (by simp) (by simp) (by simp) h63 hbytes (Nat.zero_le _)
      exact huse v' w' hrun (by simpa [Enc.all] using h2) h3 h5
  · obtain ⟨ad, rfl, _, hc⟩ := hrd.cells hk
    obtain ⟨v', w', hrun, h2, h3, _, h5⟩ := run_append_own_at (P := P) w 0 t ty e i zv E.sz by_ ht.und hi1 hz hs hby (by rw [← Array.length_toList, hzc, ht.len]) ht.pos v m xs hown ad k c (E.all src) (by rw [E.all_length, hrd.len])
      (fun j u hu => by
        have hj : j < src.length * E.sz := by
          have := (List.getElem?_eq_some_iff.1 hu).1
          rwa [E.all_length] at this
        have hsz : 0 < E.sz := ht.pos
        have hq : j / E.sz < src.length := (Nat.div_lt_iff_lt_mul hsz).2 hj
        have hm := Nat.mod_lt j hsz
        have hdm := Nat.div_add_mod j E.sz
        obtain ⟨a0, ha0⟩ : ∃ a0, src[j / E.sz]? = some a0 := ⟨src[j / E.sz], List.getElem?_eq_getElem hq⟩
        obtain ⟨u0, hu0⟩ : ∃ u0, (E.enc a0)[j % E.sz]? = some u0 := ⟨(E.enc a0)[j % E.sz]'(by rw [E.len]; exact hm), List.getElem?_eq_getElem _⟩
        have h1 := E.all_get ha0 hu0
        have e1 : j / E.sz * E.sz + j % E.sz = j := by rw [Nat.mul_comm]; exact hdm
        rw [e1, hu] at h1
        simp only [Option.some.injEq] at h1
        subst h1
        have := hc _ _ _ _ ha0 hu0
        rw [add_add, e1] at this
        exact this) (E.all_ones src) h63 hbytes (Nat.zero_le _)
    exact huse v' w' hrun h2 h3 h5

/-- make([]T, m): all zero -/
theorem madeCells_zeros (z : List Value) (k sz : Nat) (hl : z.length = sz) : madeCells z.toArray (k * sz) = (zeros z k).toArray := by
  subst hl
  exact zeros_array z k
theorem RW.make {x y : Operand} {t e sz by_ : Nat} {z : List Value} {i : Int} (m : Nat) (ht : SlT P t e sz by_ z) (hd : Nat.blt d n = true) (hx : ev l x = some (.int .i64 i)) (hy : ev l y = some (.int .i64 i)) (hm : i = (m : Int)) (h63 : m ≤ maxLen) (hbytes : by_ * m ≤ 281474976710656)
    (h : ∀ g, b.heap.size ≤ g → (∀ k ∈ feet cs, k < g) → RW P n ops Q rest ((d, .slice (some ⟨g, 0, none⟩) m m) :: l) (SH b S (own e sz (.slice (some ⟨g, 0, none⟩) m m) m (zeros z m) :: cs))) :
    RW P n ops Q (⟨some d, .makeSlice t x y, ty, pos, af, none⟩ :: rest) l (SH b S cs) := by
  subst hm
  obtain ⟨inf, zv, hi1, hz, hzc, hs, hby⟩ := ht.inf
  refine RW.step hd fun ρ w hρ hw => ?_
  have hb' : (inf.bytes : Int) * (m : Int) ≤ 281474976710656 := by
    rw [hby, ← Int.natCast_mul]; omega
  have h63' : (m : Int) ≤ 9223372036854775807 := by simp only [maxLen] at h63; omega
  have hr := run_make (P := P) w t e inf zv ht.und hi1 hz .i64 .i64 m m (by omega) (Int.le_refl _) hb' h63'
  have hzz : zv.cells = z.toArray := by rw [← hzc]
  simp only [Int.toNat_natCast, hs, hzz, madeCells_zeros z m sz ht.len] at hr
  refine ⟨.slice (some ⟨w.heap.size, 0, none⟩) m m, w.alloc (.cells (zeros z m).toArray e), ?_, (h w.heap.size hw.ext.size (fun k hk => hw.lt hk)).at (hw.add (Ext.alloc _ _ _) ?_ (by simp [own, Value.ownBlock]) (by simp [own, Value.ownBlock]))⟩
  · simp [execOp, hρ x _ hx, hρ y _ hy, hr]
  · have hlen : (zeros z m).length = m * sz := by rw [zeros_length, ht.len]
    exact ⟨hlen, .inr ⟨w.heap.size, m, (zeros z m).toArray, rfl, Nat.zero_le _, heap_alloc_new w _, Nat.le_refl _, h63, by simpa using hlen, by simp [← hlen]⟩⟩
/-- a cut of a slice, by numbers -/
theorem run_sliceSl {w : World} {t e sz by_ : Nat} {z : List Value} {A : Option Addr} {m c : Nat} {lo hi : Option Value} {p q : Nat} (ht : SlT P t e sz by_ z) (hlo : lo = some (.int .i64 (p : Int)) ∨ lo = none ∧ p = 0) (hhi : hi = some (.int .i64 (q : Int)) ∨ hi = none ∧ q = m) (h1 : p ≤ q) (h2 : q ≤ c) :
    (Instr.slice t (.slice A m c) lo hi none).run P w = .ok (.slice (if c = p then A else A.map (·.add (p * sz))) (q - p) (c - p)) w := by
  obtain ⟨inf, zv, hi1, hz, hzc, hs, hby⟩ := ht.inf
  unfold Instr.slice Instr.sliceBounds
  rcases hlo with rfl | ⟨rfl, rfl⟩ <;> rcases hhi with rfl | ⟨rfl, rfl⟩ <;>
    simp [run_underlying ht.und, Instr.sliceBound, asIntOf, run_sizeOf hi1, hs, h1, h2]
theorem RW.sliceSl {H : World → Prop} {x : Operand} {lo hi : Option Operand} {t e sz by_ : Nat} {z : List Value} {A : Option Addr} {m c : Nat} (p q : Nat) (ht : SlT P t e sz by_ z) (hd : Nat.blt d n = true) (hx : ev l x = some (.slice A m c))
    (hlo : (∃ o u, lo = some o ∧ ev l o = some (.int .i64 u) ∧ u = (p : Int)) ∨ lo = none ∧ p = 0) (hhi : (∃ o u, hi = some o ∧ ev l o = some (.int .i64 u) ∧ u = (q : Int)) ∨ hi = none ∧ q = m) (h1 : p ≤ q) (h2 : q ≤ c)
    (h : RW P n ops Q rest ((d, .slice (if c = p then A else A.map (·.add (p * sz))) (q - p) (c - p)) :: l) H) : RW P n ops Q (⟨some d, .slice t x lo hi none, ty, pos, af, none⟩ :: rest) l H := by
  refine RW.val _ hd (fun ρ w hρ => ?_) h
  have := run_sliceSl (w := w) (A := A) (m := m) (c := c) (lo := lo.map ρ) (hi := hi.map ρ) (p := p) (q := q) ht
    (by rcases hlo with ⟨o, u, rfl, ho, rfl⟩ | ⟨rfl, h0⟩
        · left; simp [hρ o _ ho]
        · right; exact ⟨rfl, h0⟩)
    (by rcases hhi with ⟨o, u, rfl, ho, rfl⟩ | ⟨rfl, h0⟩
        · left; simp [hρ o _ ho]
        · right; exact ⟨rfl, h0⟩) h1 h2
  simp [execOp, hρ x _ hx, Instr.sliceAt, run_underlying ht.und, this]
theorem Rd.cut {α : Type} {E : Enc α} {w : World} {F : Nat → Prop} {A : Option Addr} {m c : Nat} {xs : List α} (h : Rd E w F A m c xs) {p q : Nat} (h1 : p ≤ q) (h2 : q ≤ m) :
    Rd E w F (if c = p then A else A.map (·.add (p * E.sz))) (q - p) (c - p) ((xs.take q).drop p) := by
  have hl := h.len
  have hc := h.cap
  refine ⟨by simp; omega, by omega, by have := h.max; omega, fun hn => ?_⟩
  obtain ⟨ad, rfl, hF, hcell⟩ := h.cells (by omega)
  rw [if_neg (by omega)]
  refine ⟨ad.add (p * E.sz), rfl, by rw [block_add]; exact hF, fun k a j u hk hu => ?_⟩
  rw [List.getElem?_drop, List.getElem?_take] at hk
  split at hk
  · have := hcell (p + k) a j u hk hu
    rw [add_add] at this
    rw [add_add, add_add, show p * E.sz + (k * E.sz + j) = (p + k) * E.sz + j by rw [Nat.add_mul]; omega]
    exact this
  · cases hk
/-- copy into an owned slice -/
theorem splice_all {vs xs : List Value} : ∀ (o : Nat), o + vs.length ≤ xs.length → splice xs o vs = xs.take o ++ vs ++ xs.drop (o + vs.length) := by
  induction vs generalizing xs with
  | nil => intro o h; simp [splice]
  | cons v vs ih =>
    intro o h
    simp only [List.length_cons] at h
    have ih' := ih (xs := xs.set o v) (o + 1) (by simp; omega)
    simp only [splice]
    rw [ih', List.take_add_one, List.getElem?_set_self (by omega)]
    simp only [Option.toList_some, List.take_set_of_le (Nat.le_refl o), List.drop_set_of_lt (show o < o + 1 + vs.length by omega), List.length_cons]
    rw [show o + (vs.length + 1) = o + 1 + vs.length by omega]
    simp
theorem RW.copyOwn {α : Type} {E : Enc α} {x y : Operand} {t e by_ : Nat} {z : List Value} {g m c : Nat} {xs : List Value} {A : Option Addr} {k c' : Nat} {src : List α} {F : Nat → Prop} {cs' : List Chunk} (ht : SlT P t e E.sz by_ z) (hd : Nat.blt d n = true)
    (hx : ev l x = some (.slice (some ⟨g, 0, none⟩) m c)) (hy : ev l y = some (.slice A k c')) (hu : Upd cs (own e E.sz (.slice (some ⟨g, 0, none⟩) m c) m xs) (own e E.sz (.slice (some ⟨g, 0, none⟩) m c) m (E.all src ++ xs.drop (k * E.sz))) cs')
    (hsrc : ∀ w, SH b S cs w → Rd E w F A k c' src) (hk : k ≤ m)
    (h : RW P n ops Q rest ((d, .int .i64 (k : Int)) :: l) (SH b S cs')) :
    RW P n ops Q (⟨some d, .call ⟨.builtin .copy, #[x, y], #[t, t]⟩, ty, pos, af, none⟩ :: rest) l (SH b S cs) := by
  obtain ⟨i, zv, hi1, hz, hzc, hs, hby⟩ := ht.inf
  refine RW.step hd fun ρ w hρ hw => ?_
  have hown := hw.has hu.has
  have hrd := hsrc w hw
  have hall : (E.all src).length = k * E.sz := by rw [E.all_length, hrd.len]
  have hle : k * E.sz ≤ m * E.sz := Nat.mul_le_mul_right _ hk
  have hxs := hown.1
  have hspl : splice xs 0 (E.all src) = E.all src ++ xs.drop (k * E.sz) := by
    rw [splice_all 0 (by rw [hall, hxs]; omega), hall]
    simp
  rw [← hspl] at hu
  obtain ⟨w', hr, hw'⟩ := hw.storeOwn (P := P) (xs := xs) (o := 0) (vs := E.all src) (by rw [hall, hxs]; omega) (E.all_ones src) hu
  have hmin : Nat.min k m = k := Nat.min_eq_left hk
  have hfc : (Builtin.firstCells E.sz k (.slice A k c')).run P w = .ok (E.all src).toArray w := by
    rcases Nat.eq_zero_or_pos k with h0 | h0
    · subst h0
      have hsl : src = [] := List.eq_nil_of_length_eq_zero hrd.len
      subst hsl
      cases A <;> simp [Builtin.firstCells, Enc.all, loadCells, loadCellsFrom]
    · obtain ⟨ad, rfl, _, hc⟩ := hrd.cells h0
      have := run_loadCellsFrom (P := P) (w := w) (p := ad) (E.all src) 0 #[] (fun j u hu => by
        have hj : j < src.length * E.sz := by
          have := (List.getElem?_eq_some_iff.1 hu).1
          rwa [E.all_length] at this
        have hsz : 0 < E.sz := ht.pos
        have hq : j / E.sz < src.length := (Nat.div_lt_iff_lt_mul hsz).2 hj
        have hm := Nat.mod_lt j hsz
        have hdm := Nat.div_add_mod j E.sz
        obtain ⟨a0, ha0⟩ : ∃ a0, src[j / E.sz]? = some a0 := ⟨src[j / E.sz], List.getElem?_eq_getElem hq⟩
        obtain ⟨u0, hu0⟩ : ∃ u0, (E.enc a0)[j % E.sz]? = some u0 := ⟨(E.enc a0)[j % E.sz]'(by rw [E.len]; exact hm), List.getElem?_eq_getElem _⟩
        have h1 := E.all_get ha0 hu0
        have e1 : j / E.sz * E.sz + j % E.sz = j := by rw [Nat.mul_comm]; exact hdm
        rw [e1, hu] at h1
        simp only [Option.some.injEq] at h1
        subst h1
        have := hc _ _ _ _ ha0 hu0
        rw [add_add, e1] at this
        rw [Nat.zero_add]
        exact this)
      rw [hall] at this
      simpa [Builtin.firstCells, loadCells] using this
  refine ⟨.int .i64 (k : Int), w', ?_, h.at hw'⟩
  simp [execOp, resolve, invoke, builtin, hρ x _ hx, hρ y _ hy, Builtin.copy_, run_underlying ht.und, Builtin.lenOf, run_sizeOf hi1, hs, hmin, hfc, goInt, hr]
/-- A callee that writes into one chunk. -/
theorem RW.callU {args : List Operand} {tys : Array TypeId} {f : FuncId} {vs : List Value} {v : Value} {c c' : Chunk} {cs' : List Chunk} (hd : Nat.blt d n = true) (hcb : CaT P f) (hargs : evs l args = some vs) (hu : Upd cs c c' cs') (hf : c'.foot = c.foot)
    (hC : ∀ w, SH b S cs w → Calls P f vs.toArray w (fun e w' => e = .returned v ∧ Ext c.foot w w' ∧ c'.pred w'))
    (h : RW P n ops Q rest ((d, v) :: l) (SH b S cs')) :
    RW P n ops Q (⟨some d, .call ⟨.value (.func f), args.toArray, tys⟩, ty, pos, af, none⟩ :: rest) l (SH b S cs) := by
  refine RW.callG rfl hd hcb hargs fun w hw => ?_
  have := hC w hw
  simp only [Array.empty_append, Array.append_empty]
  refine this.mono ?_
  rintro e w' ⟨rfl, he, hp⟩
  refine ⟨v, rfl, h.at (hw.upd hu he hp (fun k hk => .inl (hf ▸ hk)) ?_)⟩
  rw [hf]
  obtain ⟨l1, r1, rfl, _⟩ := hu.split
  have := hw.nodup
  rw [feet_app, feet_cons, List.nodup_append, List.nodup_append] at this
  exact this.2.1.1
theorem SH.startOf {w : World} {c : Chunk} (hp : c.pred w) (hn : c.foot.Nodup) : SH w c.foot [c] w := ⟨Ext.refl _ _, by simpa [feet] using hn, by simpa using hp, fun k hk _ => by simpa [feet] using hk⟩
theorem SH.startOf' {w b : World} {c : Chunk} (h : w = b) (hp : c.pred b) (hn : c.foot.Nodup) : SH b c.foot [c] w := by
  subst h
  exact SH.startOf hp hn
theorem own_nodup (e sz : Nat) (v : Value) (m : Nat) (xs : List Value) : (own e sz v m xs).foot.Nodup := by
  show v.ownBlock.toList.Nodup
  cases v.ownBlock <;> simp
/-- a load of an element, or of a field, out of an owned slice -/
theorem RW.loadOwn1 {x : Operand} {t : TypeId} {z : Value} {p : Addr} {v : Value} {e sz g m c o : Nat} {xs : List Value} (ht : ScT P t z) (hd : Nat.blt d n = true) (hx : ev l x = some (.pointer (some p)))
    (hb : Has cs (own e sz (.slice (some ⟨g, 0, none⟩) m c) m xs)) (hp : p = ⟨g, o, none⟩) (hv : xs[o]? = some v)
    (h : RW P n ops Q rest ((d, v) :: l) (SH b S cs)) : RW P n ops Q (⟨some d, .load t x, ty, pos, af, none⟩ :: rest) l (SH b S cs) :=
  RW.load1 ht hd hx (fun _ hw => by subst hp; exact hw.own_cell hb hv) h
theorem RW.loadOwnA {x : Operand} {t sz' : TypeId} {z vs : List Value} {p : Addr} {e sz g m c o : Nat} {xs : List Value} (ht : AgT P t sz' z) (hd : Nat.blt d n = true) (hx : ev l x = some (.pointer (some p)))
    (hb : Has cs (own e sz (.slice (some ⟨g, 0, none⟩) m c) m xs)) (hp : p = ⟨g, o, none⟩) (hl : vs.length = sz') (hv : ∀ j u, vs[j]? = some u → xs[o + j]? = some u)
    (h : RW P n ops Q rest ((d, .agg vs.toArray) :: l) (SH b S cs)) : RW P n ops Q (⟨some d, .load t x, ty, pos, af, none⟩ :: rest) l (SH b S cs) :=
  RW.loadA ht hd hx hl (fun _ hw j u hu => by subst hp; rw [Addr.add_lit]; exact hw.own_cell hb (hv j u hu)) h
theorem RW.makeFunc {fn : Fn} {first captured : List Operand} {us vs : List Value} (hd : Nat.blt d n = true) (h1 : evs l first = some us) (h2 : evs l captured = some vs)
    (h : RW P n ops Q rest ((d, .func fn us.toArray vs.toArray) :: l) (SH b S cs)) : RW P n ops Q (⟨some d, .makeFunc fn first.toArray captured.toArray, ty, pos, af, none⟩ :: rest) l (SH b S cs) :=
  RW.val _ hd (fun ρ w hρ => by simp [execOp, Instr.makeFunc, hρ.list _ _ h1, hρ.list _ _ h2]) h
theorem RW.callV {fo : Operand} {args : List Operand} {tys : Array TypeId} {f : FuncId} {first cap : List Value} {vs : List Value} {v : Value} (hd : Nat.blt d n = true) (hf : ev l fo = some (.func (.func f) first.toArray cap.toArray)) (hcb : CaT P f) (hargs : evs l args = some vs)
    (hC : ∀ w, SH b S cs w → Calls P f (first ++ vs ++ cap).toArray w (fun e w' => e = .returned v ∧ Ext [] w w'))
    (h : RW P n ops Q rest ((d, v) :: l) (SH b S cs)) :
    RW P n ops Q (⟨some d, .call ⟨.value fo, args.toArray, tys⟩, ty, pos, af, none⟩ :: rest) l (SH b S cs) := by
  refine RW.callG hf hd hcb hargs fun w hw => ?_
  have := hC w hw
  simp only [List.append_toArray]
  refine this.mono ?_
  rintro e w' ⟨rfl, he⟩
  exact ⟨v, rfl, h.at (hw.keep he)⟩
end
end Go.Proofs.Ytjmmikdbhhomiaa.Mq
