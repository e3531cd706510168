/-
  == AND != ON STRUCTS whose cells are numbers, bools and strings: the cells are alike.
-/
import Derived.Test.YtjmmikdbhhomiaaMore
import Derived.Laws.StructEq
namespace Go.Proofs.Ytjmmikdbhhomiaa.Mq
open Go Go.RowKit

def veq : Value → Value → Bool
  | .int _ a, .int _ b => decide (a = b)
  | .bool a, .bool b => a == b
  | .string a, .string b => decide (a.data.toList = b.data.toList)
  | _, _ => false
def eqv : List Value → List Value → Bool
  | [], [] => true
  | x :: xs, y :: ys => veq x y && eqv xs ys
  | _, _ => false
theorem eqv_append : ∀ (a b c d : List Value), a.length = c.length → eqv (a ++ b) (c ++ d) = (eqv a c && eqv b d)
  | [], b, [], d, _ => by simp [eqv]
  | x :: a, b, y :: c, d, h => by simp [eqv, eqv_append a b c d (by simpa using h), Bool.and_assoc]
  | [], _, _ :: _, _, h => by simp at h
  | _ :: _, _, [], _, h => by simp at h
def isAg (P : Program) (t : TypeId) : Bool := match P.underlying t with
  | some d => !notAgg d
  | none => false
def sizeT (P : Program) (t : TypeId) : Nat := match P.info? t with
  | some i => i.size
  | none => 0
def valT (P : Program) (t : TypeId) (xs : List Value) : Value := match isAg P t with
  | true => .agg xs.toArray
  | false => xs.headD undef
def alikeFs (P : Program) (al : TypeId → List Value → List Value → Bool) : List Field → Nat → List Value → List Value → Bool
  | [], _, [], [] => true
  | f :: fs, off, xs, ys => (f.name != "_") && Nat.beq f.offset off && ((P.info? f.type).isSome && (isAg P f.type || Nat.beq (sizeT P f.type) 1)) && Nat.beq (xs.take (sizeT P f.type)).length (sizeT P f.type) && Nat.beq (ys.take (sizeT P f.type)).length (sizeT P f.type) &&
      al f.type (xs.take (sizeT P f.type)) (ys.take (sizeT P f.type)) && alikeFs P al fs (off + sizeT P f.type) (xs.drop (sizeT P f.type)) (ys.drop (sizeT P f.type))
  | _, _, _, _ => false
def alike (P : Program) : Nat → TypeId → List Value → List Value → Bool
  | 0, _, _, _ => false
  | d + 1, t, xs, ys => match P.underlying t with
    | some (.int _) => match xs, ys with
      | [.int k _], [.int k' _] => decide (k = k')
      | _, _ => false
    | some .bool => match xs, ys with
      | [.bool _], [.bool _] => true
      | _, _ => false
    | some .string => match xs, ys with
      | [.string _], [.string _] => true
      | _, _ => false
    | some (.struct fs) => !P.stoodInHeld t && alikeFs P (alike P d) fs.toList 0 xs ys
    | _ => false
theorem run_part {P : Program} {w : World} {t : TypeId} {cs : List Value} {off : Nat} {de : TypeDesc} {i : TypeInfo} (hu : P.underlying t = some de) (hi : P.info? t = some i) (hone : notAgg de = true → i.size = 1) (hl : ((cs.drop off).take i.size).length = i.size) :
    (part t cs.toArray off).run P w = .ok (valT P t ((cs.drop off).take i.size)) w := by
  unfold part valT isAg
  rw [hu]
  cases hd : notAgg de with
  | true =>
    have hs := hone hd
    rw [hs] at hl ⊢
    have hlt : off < cs.length := by simp at hl; omega
    simp [run_isAgg hu, hd, List.getElem?_eq_getElem hlt, List.head?_take, List.head?_drop, List.headD_eq_head?_getD]
  | false =>
    simp [run_isAgg hu, hd, run_sizeOf hi]
theorem run_eq_flat {P : Program} : ∀ (d : Nat) (t : TypeId) (xs ys : List Value) (w : World), alike P d t xs ys = true →
    ∀ e, (Op.equalIn (d + e) t (valT P t xs) (valT P t ys)).run P w = .ok (eqv xs ys) w
  | 0, _, _, _, _, h, _ => by simp [alike] at h
  | d + 1, t, xs, ys, w, h, e => by
    have hde : d + 1 + e = (d + e) + 1 := by omega
    rw [hde]
    unfold alike at h
    split at h
    · rename_i k hu
      split at h
      · rename_i k1 a k2 b
        have hk : k1 = k2 := by simpa using h
        subst hk
        simp [valT, isAg, hu, notAgg, run_equalIn_int w _ _ _ _ _ _ hu, eqv, veq, beq_dec]
      · cases h
    · rename_i hu
      split at h
      · simp [valT, isAg, hu, notAgg, Op.equalIn, run_underlying hu, eqv, veq]
      · cases h
    · rename_i hu
      split at h
      · rename_i a b
        have e1 : (a.toList == b.toList) = decide (a.data.toList = b.data.toList) := by
          rw [ByteArray.toList_eq, ByteArray.toList_eq, Bool.eq_iff_iff]
          simp only [beq_iff_eq, decide_eq_true_eq]
        simp only [valT, isAg, hu, notAgg, Bool.not_true, List.headD_cons, run_equalIn_string w _ _ _ _ hu, eqv, veq, e1, Bool.and_true]
      · cases h
    · rename_i fs hu
      simp only [Bool.and_eq_true, Bool.not_eq_true'] at h
      obtain ⟨hst, hfs⟩ := h
      have hval : ∀ zs, valT P t zs = .agg zs.toArray := fun zs => by simp [valT, isAg, hu, notAgg]
      rw [hval, hval]
      have hfo : P.fieldsOf t = fs := by simp [Program.fieldsOf, hu]
      have hrs := run_equalIn_struct (P := P) w (d + e) t xs.toArray ys.toArray (by rw [hfo]; exact hu) hst
      rw [hfo] at hrs
      rw [hrs]
      have key : ∀ (l : List Field) (off : Nat) (us vs : List Value), us = xs.drop off → vs = ys.drop off → alikeFs P (alike P d) l off us vs = true → (Op.eqFields (d + e) xs.toArray ys.toArray l).run P w = .ok (eqv us vs) w := by
        intro l
        induction l with
        | nil =>
          intro off us vs _ _ h
          cases us <;> cases vs <;> simp [alikeFs] at h
          simp [Op.eqFields, eqv]
        | cons f l ih =>
          intro off us vs hus hvs h
          simp only [alikeFs, Bool.and_eq_true] at h
          obtain ⟨⟨⟨⟨⟨⟨h1, h2⟩, h3⟩, h4⟩, h5⟩, h6⟩, h7⟩ := h
          have hoff : f.offset = off := Nat.eq_of_beq_eq_true h2
          have hl4 := Nat.eq_of_beq_eq_true h4
          have hl5 := Nat.eq_of_beq_eq_true h5
          cases hi : P.info? f.type with
          | none => rw [hi] at h3; cases h3.1
          | some i =>
            have hsz : sizeT P f.type = i.size := by simp [sizeT, hi]
            rw [hsz] at hl4 hl5 h6 h7
            have hund : ∃ de, P.underlying f.type = some de := by
              cases d with
              | zero => simp [alike] at h6
              | succ d =>
                unfold alike at h6
                cases hd : P.underlying f.type with
                | none => rw [hd] at h6; cases h6
                | some de => exact ⟨de, rfl⟩
            obtain ⟨de, hde⟩ := hund
            have hone' : notAgg de = true → i.size = 1 := fun hn => by
              rw [← hsz]
              have h3' := h3.2
              rw [Bool.or_eq_true] at h3'
              rcases h3' with h3' | h3'
              · simp [isAg, hde, hn] at h3'
              · exact Nat.eq_of_beq_eq_true h3'
            have p1 := run_part (P := P) (w := w) (cs := xs) (off := off) hde hi hone' (by rw [← hus]; exact hl4)
            have p2 := run_part (P := P) (w := w) (cs := ys) (off := off) hde hi hone' (by rw [← hvs]; exact hl5)
            rw [← hus] at p1
            rw [← hvs] at p2
            have ihd := run_eq_flat d f.type (us.take i.size) (vs.take i.size) w h6 e
            have ihl := ih (off + i.size) (us.drop i.size) (vs.drop i.size) (by rw [hus, List.drop_drop]) (by rw [hvs, List.drop_drop]) h7
            have hsp : eqv us vs = (eqv (us.take i.size) (vs.take i.size) && eqv (us.drop i.size) (vs.drop i.size)) := by
              rw [← eqv_append _ _ _ _ (by rw [hl4, hl5]), List.take_append_drop, List.take_append_drop]
            have hnm : f.name ≠ "_" := by simpa using h1
            unfold Op.eqFields
            rw [if_pos hnm, hoff]
            simp only [Sem.run_bind, p1, p2, Result.andThen_ok, ihd]
            cases hb : eqv (us.take i.size) (vs.take i.size) with
            | true => simp [ihl, hsp, hb]
            | false => simp [hsp, hb]
      exact key fs.toList 0 xs ys (by simp) (by simp) hfs
    · cases h
structure EqT (P : Program) (t : TypeId) : Prop where
  agg : isAg P t = true
  guard : P.eqGuardType P.depth t = false
section
variable {P : Program} {n : Nat} {ops : Array Oper} {Q : Post} {rest : List Oper} {l : Fr} {H : World → Prop} {d : Nat} {ty : TypeId} {pos : String} {af : Array Edge}
variable {xt yt : TypeId} {x y : Operand} {xs ys : List Value}
theorem run_eqSt {w : World} (ht : EqT P xt) (ha : alike P 50 xt xs ys = true) : (Op.equalIn 10000 xt (.agg xs.toArray) (.agg ys.toArray)).run P w = .ok (eqv xs ys) w := by
  have := run_eq_flat 50 xt xs ys w ha 9950
  have hv : ∀ zs, valT P xt zs = .agg zs.toArray := fun zs => by simp [valT, ht.agg]
  rw [hv, hv] at this
  exact this
theorem RW.eqlSt {r : Bool} (ht : EqT P xt) (hd : Nat.blt d n = true) (hx : ev l x = some (.agg xs.toArray)) (hy : ev l y = some (.agg ys.toArray)) (ha : alike P 50 xt xs ys = true) (hr : eqv xs ys = r)
    (h : RW P n ops Q rest ((d, .bool r) :: l) H) : RW P n ops Q (⟨some d, .binOp .eql xt x y yt, ty, pos, af, none⟩ :: rest) l H := by
  refine RW.val _ hd (fun ρ w hρ => ?_) h
  have h1 := run_eqGuard_agg (P := P) w .eql xt x y xs.toArray ys.toArray ht.guard
  have h2 := run_eql_struct (P := P) w xt xs.toArray ys.toArray
  rw [run_eqSt ht ha] at h2
  simp only [execOp, hρ x _ hx, hρ y _ hy]
  simp only [Sem.run_bind, h1, Result.andThen_ok, h2, Sem.run_pure, hr]
theorem RW.neqSt {r : Bool} (ht : EqT P xt) (hd : Nat.blt d n = true) (hx : ev l x = some (.agg xs.toArray)) (hy : ev l y = some (.agg ys.toArray)) (ha : alike P 50 xt xs ys = true) (hr : eqv xs ys = r)
    (h : RW P n ops Q rest ((d, .bool (!r)) :: l) H) : RW P n ops Q (⟨some d, .binOp .neq xt x y yt, ty, pos, af, none⟩ :: rest) l H := by
  refine RW.val _ hd (fun ρ w hρ => ?_) h
  have h1 := run_eqGuard_agg (P := P) w .neq xt x y xs.toArray ys.toArray ht.guard
  have h2 := run_neq_struct (P := P) w xt xs.toArray ys.toArray
  rw [run_eqSt ht ha] at h2
  simp only [execOp, hρ x _ hx, hρ y _ hy]
  simp only [Sem.run_bind, h1, Result.andThen_ok, h2, Sem.run_pure, hr]
end

/- RESULTS -/
def resRun (tmps : Array Value) : ResultVar → Sem Value
  | .tmp t => pure (tmps.getD t undef)
  | .cell a t => do loadVar t (← asAddr (tmps.getD a undef))
def RV (P : Program) (n : Nat) (l : Fr) (H : World → Prop) (r : ResultVar) (v : Value) : Prop := ∀ a w, Agr n l a → H w → (resRun a.tmps r).run P w = .ok v w
section
variable {P : Program} {n : Nat} {l : Fr} {H : World → Prop}
theorem RV.tmp {t : Nat} {v : Value} (hv : look l t = some v) : RV P n l H (.tmp t) v := fun a w ha _ => by
  simp [resRun, Array.getD_eq_getD_getElem?, ha.val t v hv]
theorem RV.cellA {b : World} {S : List Nat} {cs : List Chunk} {a t sz : Nat} {z xs vs : List Value} {g o : Nat} {te : TypeId} (ht : AgT P t sz z) (hv : look l a = some (.pointer (some ⟨g, o, none⟩))) (hb : Has cs (blk g xs te)) (hx : (xs.drop o).take sz = vs) (hl : vs.length = sz) :
    RV P n l (SH b S cs) (.cell a t) (.agg vs.toArray) := fun act w ha hw => by
  obtain ⟨de, h1, h2⟩ := ht.und
  obtain ⟨i, h3, _, h4⟩ := ht.inf
  have := run_loadCellsFrom (P := P) (w := w) (p := ⟨g, o, none⟩) vs 0 #[] (fun j u hu => by
    rw [Nat.zero_add, Addr.add_lit]
    refine hw.blk_cell hb ?_
    rw [← hx, List.getElem?_take] at hu
    split at hu
    · simpa using hu
    · cases hu)
  simp [resRun, Array.getD_eq_getD_getElem?, ha.val a _ hv, asAddr, loadVar, run_isAgg h1, h2, run_sizeOf h3, h4, loadCells, ← hl, this]
theorem RV.cell1 {b : World} {S : List Nat} {cs : List Chunk} {a t : Nat} {z : Value} {xs : List Value} {v : Value} {g o : Nat} {te : TypeId} (ht : ScT P t z) (hv : look l a = some (.pointer (some ⟨g, o, none⟩))) (hb : Has cs (blk g xs te)) (hx : xs[o]? = some v) :
    RV P n l (SH b S cs) (.cell a t) v := fun act w ha hw => by
  obtain ⟨de, h1, h2⟩ := ht.und
  simp [resRun, Array.getD_eq_getD_getElem?, ha.val a _ hv, asAddr, loadVar, run_isAgg h1, h2, hw.blk_cell hb hx]
variable {fn : Func} {R : Ending → World → Prop} {r1 r2 r3 r4 : ResultVar} {v1 v2 v3 v4 : Value}
theorem results_resRun (fn : Func) (tmps : Array Value) : results fn tmps = (do
  let vs ← fn.results.mapM (resRun tmps)
  pure (if h : vs.size = 1 then vs[0] else .tuple vs)) := by
  unfold results
  congr 1
theorem EX.fin1' (hr : fn.results = #[r1]) (h1 : RV P n l H r1 v1) (h : ∀ w, H w → R (.returned v1) w) : EX (Fin P n fn R) .ret l H := fun w hw a ha =>
  ⟨v1, by rw [results_resRun, hr]; simp [h1 a w ha hw], h w hw⟩
theorem EX.fin2' (hr : fn.results = #[r1, r2]) (h1 : RV P n l H r1 v1) (h2 : RV P n l H r2 v2) (h : ∀ w, H w → R (.returned (.tuple #[v1, v2])) w) : EX (Fin P n fn R) .ret l H := fun w hw a ha =>
  ⟨_, by rw [results_resRun, hr]; simp [h1 a w ha hw, h2 a w ha hw], h w hw⟩
theorem EX.fin3' (hr : fn.results = #[r1, r2, r3]) (h1 : RV P n l H r1 v1) (h2 : RV P n l H r2 v2) (h3 : RV P n l H r3 v3) (h : ∀ w, H w → R (.returned (.tuple #[v1, v2, v3])) w) : EX (Fin P n fn R) .ret l H := fun w hw a ha =>
  ⟨_, by rw [results_resRun, hr]; simp [h1 a w ha hw, h2 a w ha hw, h3 a w ha hw], h w hw⟩
theorem EX.fin4' (hr : fn.results = #[r1, r2, r3, r4]) (h1 : RV P n l H r1 v1) (h2 : RV P n l H r2 v2) (h3 : RV P n l H r3 v3) (h4 : RV P n l H r4 v4) (h : ∀ w, H w → R (.returned (.tuple #[v1, v2, v3, v4])) w) : EX (Fin P n fn R) .ret l H := fun w hw a ha =>
  ⟨_, by rw [results_resRun, hr]; simp [h1 a w ha hw, h2 a w ha hw, h3 a w ha hw, h4 a w ha hw], h w hw⟩
theorem EX.ofRet {e : Exit} (he : e = .normal) (h : EX (Fin P n fn R) .ret l H) : EX (Fin P n fn R) e l H := by subst he; exact h
end
section
variable {P : Program} {n : Nat} {ops : Array Oper} {Q : Post} {rest : List Oper} {l : Fr} {H : World → Prop} {d : Nat} {ty : TypeId} {pos : String} {af : Array Edge}
theorem CW.condT {cd cd' : Code} {c : Operand} {t : Bool} (hc : ev l c = some (.bool t)) (hb : t = true) (h : CW P n cd Q l H) : CW P n (.cond c cd cd') Q l H :=
  CW.cond hc (fun _ => h) (fun hf => by rw [hb] at hf; cases hf)
theorem CW.condF {cd cd' : Code} {c : Operand} {t : Bool} (hc : ev l c = some (.bool t)) (hb : t = false) (h : CW P n cd' Q l H) : CW P n (.cond c cd cd') Q l H :=
  CW.cond hc (fun hf => by rw [hb] at hf; cases hf) (fun _ => h)
theorem SH.own_at {α : Type} {E : Enc α} {b : World} {S : List Nat} {cs : List Chunk} {w : World} (h : SH b S cs w) {e g m c : Nat} {L : List α} (hc : Has cs (own e E.sz (.slice (some ⟨g, 0, none⟩) m c) m (E.all L))) {k : Nat} {a : α} (hk : L[k]? = some a) (j : Nat) (u : Value) (hj : (E.enc a)[j]? = some u) :
    w.cell? (((⟨g, 0, none⟩ : Addr).add (k * E.sz)).add j) = some u := by
  rw [Addr.add_lit, Addr.add_lit]
  refine h.own_cell hc ?_
  rw [Nat.zero_add]
  exact E.all_get hk hj
theorem Enc.splice_all {α : Type} (E : Enc α) {L : List α} {i : Nat} (a' : α) (hi : i < L.length) : splice (E.all L) (i * E.sz) (E.enc a') = E.all (L.set i a') := by
  have hle : i * E.sz + E.sz ≤ L.length * E.sz := by
    have := Nat.mul_le_mul_right E.sz (show i + 1 ≤ L.length from hi)
    rw [Nat.add_mul] at this
    omega
  rw [Mq.splice_all _ (by rw [E.len, E.all_length]; exact hle), E.len]
  have h1 : L = L.take i ++ L[i] :: L.drop (i + 1) := by simp
  have hall : ∀ (x : α) (l : List α), E.all (x :: l) = E.enc x ++ E.all l := fun x l => by simp [Enc.all]
  have hlen : (E.all (L.take i)).length = i * E.sz := by rw [E.all_length, List.length_take, Nat.min_eq_left (by omega)]
  have e : E.all L = E.all (L.take i) ++ (E.enc L[i] ++ E.all (L.drop (i + 1))) := by
    conv => lhs; rw [h1]
    rw [E.all_append, hall]
  rw [e, List.take_left' hlen]
  have hd : (E.all (L.take i) ++ (E.enc L[i] ++ E.all (L.drop (i + 1)))).drop (i * E.sz + E.sz) = E.all (L.drop (i + 1)) := by
    rw [← hlen, ← List.drop_drop, List.drop_left, List.drop_left' (E.len _)]
  rw [hd, List.set_eq_take_append_cons_drop, if_pos hi, E.all_append, hall, List.append_assoc]
theorem SH.blk_at {b : World} {S : List Nat} {cs : List Chunk} {w : World} (h : SH b S cs w) {g o sz : Nat} {xs vs : List Value} {t : TypeId} (hc : Has cs (blk g xs t)) (hv : (xs.drop o).take sz = vs) (j : Nat) (u : Value) (hu : vs[j]? = some u) : w.cell? ((⟨g, o, none⟩ : Addr).add j) = some u := by
  rw [Addr.add_lit]
  refine h.blk_cell hc ?_
  rw [← hv, List.getElem?_take] at hu
  split at hu
  · simpa using hu
  · cases hu
theorem RW.guardU {op : Op} {j t : Nat} {want : Bool} (hd : Nat.blt d n = true) (hj : (ops[j]?).bind (·.dst) = some t) (ht : look l t = some undef)
    (h : RW P n ops Q rest ((d, undef) :: l) H) : RW P n ops Q (⟨some d, op, ty, pos, af, some (j, want)⟩ :: rest) l H := by
  intro w hw a ha
  unfold wpList
  rw [if_neg (by simp [Region.wanted, yielded, hj, ha.val t _ ht, undef])]
  exact h w hw _ (ha.put (Nat.le_of_ble_eq_true hd) _)
end

theorem Rd.at_ {α : Type} {E : Enc α} {b : World} {F : Nat → Prop} {A : Option Addr} {n c : Nat} {l : List α} (h : Rd E b F A n c l) {k : Nat} {a : α} (hk : l[k]? = some a) :
    ∃ ad, A = some ad ∧ F ad.block ∧ ∀ j u, (E.enc a)[j]? = some u → b.cell? ((ad.add (k * E.sz)).add j) = some u := by
  have hlt := (List.getElem?_eq_some_iff.1 hk).1
  obtain ⟨ad, h1, h2, h3⟩ := h.cells (by have := h.len; omega)
  exact ⟨ad, h1, h2, fun j u hj => h3 k a j u hk hj⟩
/-- what a call hands back: a slice in new memory that reads as a list -/
def RetSl {α : Type} (E : Enc α) (w : World) (L : List α) : Ending → World → Prop := fun e w' =>
  ∃ A n c, e = .returned (.slice A n c) ∧ Ext [] w w' ∧ Rd E w' (fun k => w.heap.size ≤ k) A n c L
theorem RetSl.of_own {α : Type} {E : Enc α} {w w' : World} {v : Value} {t m : Nat} {L : List α} (he : Ext [] w w') (h : w'.ownsRow 0 t E.sz v m (E.all L)) (hm : L.length = m) (hf : ∀ g, v.ownBlock = some g → w.heap.size ≤ g) : RetSl E w L (.returned v) w' := by
  obtain ⟨A, c, rfl, hr⟩ := Rd.of_own h hm
  exact ⟨A, m, c, rfl, he, hr.weak fun k hk => hf k hk⟩

/- A NEW BASE: from here on all is told of the world as it stands -/
section
variable {P : Program} {n : Nat} {ops : Array Oper} {Q : Post} {rest : List Oper} {l : Fr} {d : Nat} {ty : TypeId} {pos : String} {af : Array Edge}
variable {b : World} {S : List Nat} {cs : List Chunk}
theorem CW.rebase {c : Code} (h : ∀ w, SH b S cs w → CW P n c Q l (SH w [] [])) : CW P n c Q l (SH b S cs) := fun w hw => h w hw w (SH.start w)
theorem RW.rebase (h : ∀ w, SH b S cs w → RW P n ops Q rest l (SH w [] [])) : RW P n ops Q rest l (SH b S cs) := fun w hw => h w hw w (SH.start w)
theorem CW.rebaseK {c : Code} (h : ∀ w, SH b S cs w → CW P n c Q l (SH w (feet cs) cs)) : CW P n c Q l (SH b S cs) := fun w hw => h w hw w hw.rebase
theorem RW.rebaseK (h : ∀ w, SH b S cs w → RW P n ops Q rest l (SH w (feet cs) cs)) : RW P n ops Q rest l (SH b S cs) := fun w hw => h w hw w hw.rebase
/-- only one chunk is kept in sight -/
theorem SH.only {w : World} (h : SH b S cs w) {c : Chunk} (hc : Has cs c) (hn : c.foot.Nodup) : SH w c.foot [c] w := SH.startOf (h.has hc) hn
theorem Rd.strong {α : Type} {E : Enc α} {w : World} {F : Nat → Prop} {A : Option Addr} {m c : Nat} {xs : List α} (h : Rd E w F A m c xs) (hz : 0 < E.sz) : Rd E w (fun k => F k ∧ k < w.heap.size) A m c xs := by
  refine ⟨h.len, h.cap, h.max, fun hn => ?_⟩
  obtain ⟨ad, hA, hF, hc⟩ := h.cells hn
  refine ⟨ad, hA, ⟨hF, ?_⟩, hc⟩
  have h0 : 0 < xs.length := by rw [h.len]; exact hn
  have hl := E.len xs[0]
  have := hc 0 xs[0] 0 ((E.enc xs[0])[0]'(by omega)) (List.getElem?_eq_getElem h0) (List.getElem?_eq_getElem _)
  have := World.block_lt_of_cell? _ _ this
  rwa [block_add, block_add] at this
/-- a call that hands back a slice in new memory -/
theorem RW.callR {α : Type} {E : Enc α} {L : List α} {args : List Operand} {tys : Array TypeId} {f : FuncId} {vs : List Value} (hd : Nat.blt d n = true) (hcb : CaT P f) (hargs : evs l args = some vs)
    (hC : ∀ w, SH b S cs w → Calls P f vs.toArray w (RetSl E w L))
    (h : ∀ w0 w1 A m c, SH b S cs w0 → Ext [] w0 w1 → SH b S cs w1 → Rd E w1 (fun k => w0.heap.size ≤ k) A m c L → RW P n ops Q rest ((d, .slice A m c) :: l) (SH w1 [] [])) :
    RW P n ops Q (⟨some d, .call ⟨.value (.func f), args.toArray, tys⟩, ty, pos, af, none⟩ :: rest) l (SH b S cs) := by
  refine RW.callG rfl hd hcb hargs fun w hw => ?_
  have := hC w hw
  simp only [Array.empty_append, Array.append_empty]
  refine this.mono ?_
  rintro e w' ⟨A, m, c, rfl, he, hr⟩
  exact ⟨_, rfl, (h w w' A m c hw he (hw.keep he) hr).at (SH.start w')⟩
theorem RW.callK {α : Type} {E : Enc α} {L : List α} {args : List Operand} {tys : Array TypeId} {f : FuncId} {vs : List Value} (hd : Nat.blt d n = true) (hcb : CaT P f) (hargs : evs l args = some vs)
    (hC : ∀ w, SH b S cs w → Calls P f vs.toArray w (RetSl E w L))
    (h : ∀ w0 w1 A m c, SH b S cs w0 → Ext [] w0 w1 → SH b S cs w1 → (∀ k ∈ feet cs, k < w0.heap.size) → Rd E w1 (fun k => w0.heap.size ≤ k) A m c L → RW P n ops Q rest ((d, .slice A m c) :: l) (SH w1 (feet cs) cs)) :
    RW P n ops Q (⟨some d, .call ⟨.value (.func f), args.toArray, tys⟩, ty, pos, af, none⟩ :: rest) l (SH b S cs) := by
  refine RW.callG rfl hd hcb hargs fun w hw => ?_
  have := hC w hw
  simp only [Array.empty_append, Array.append_empty]
  refine this.mono ?_
  rintro e w' ⟨A, m, c, rfl, he, hr⟩
  exact ⟨_, rfl, (h w w' A m c hw he (hw.keep he) (fun k hk => hw.lt hk) hr).at (hw.keep he).rebase⟩
end
end Go.Proofs.Ytjmmikdbhhomiaa.Mq
