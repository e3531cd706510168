/-
  A REGION WHOSE ORDER IS DRAWN: where each operation's value is settled and no operation disturbs what the others read, any order comes to the frame of the text's order.
-/
import Derived.Test.YtjmmikdbhhomiaaRd
import Derived.Orders
namespace Go.Proofs.Ytjmmikdbhhomiaa.Mq
open Go Go.RowKit

section
variable {P : Program} {ops : Array Oper} {Q : Exit → Act → World → Prop}
theorem any_of (S : (Nat → Bool) → Act → World → Prop)
    (hstep : ∀ (D : Nat → Bool) (i : Nat) (o : Oper) (a : Act) (w : World), ops[i]? = some o → D i = false → (∀ e ∈ o.after, Region.binds .any e = true → D e.on = true) → S D a w →
      wpOp P ops Q i (fun a' w' => S (fun j => D j || j == i) a' w') a w)
    (hend : ∀ (D : Nat → Bool) (a : Act) (w : World), (∀ i, i < ops.size → D i = true) → S D a w → Q .normal a w)
    (hback : ∀ (i : Nat) (o : Oper), ops[i]? = some o → ∀ e ∈ o.after, Region.binds .any e = true → e.on < i) :
    ∀ (fuel : Nat) (listed : Array Bool) (a : Act) (w : World), listed.size = ops.size → listed.toList.count false ≤ fuel → S (fun j => listed.getD j false) a w →
      wpAny P .any ops Q fuel listed a w := by
  have hfull : ∀ (listed : Array Bool), listed.size = ops.size → Region.ready .any ops listed = [] → ∀ i, i < ops.size → listed.getD i false = true := by
    intro listed hsz hr i
    induction i using Nat.strongRecOn with
    | _ i ih =>
      intro hi
      cases hb : listed.getD i false with
      | true => rfl
      | false =>
        have hmem : i ∈ Region.ready .any ops listed := by
          rw [mem_ready]
          refine ⟨?_, ops[i], by simp [hi], fun e he hbd => ?_⟩
          · simp only [Array.getD_eq_getD_getElem?] at hb ⊢
            rw [Array.getElem?_eq_getElem (by omega)] at hb ⊢
            exact hb
          · have := hback i ops[i] (by simp [hi]) e he hbd
            exact ih e.on this (by omega)
        rw [hr] at hmem
        cases hmem
  intro fuel
  induction fuel with
  | zero =>
    intro listed a w hsz hc hS
    have hall : ∀ i, i < ops.size → listed.getD i false = true := by
      intro i hi
      cases hb : listed.getD i false with
      | true => rfl
      | false =>
        have hm : false ∈ listed.toList := by
          simp only [Array.getD_eq_getD_getElem?] at hb
          rw [Array.getElem?_eq_getElem (by omega)] at hb
          rw [Array.mem_toList_iff]
          simp only [Option.getD_some] at hb
          exact hb ▸ Array.getElem_mem _
        have := List.count_pos_iff.2 hm
        omega
    refine ⟨?_, hend _ a w hall hS⟩
    cases hr : Region.ready .any ops listed with
    | nil => rfl
    | cons x xs =>
      have hx : x ∈ Region.ready .any ops listed := by rw [hr]; simp
      rw [mem_ready] at hx
      obtain ⟨h0, o, ho, _⟩ := hx
      have hlt := (Array.getElem?_eq_some_iff.1 ho).1
      have := hall x hlt
      simp only [Array.getD_eq_getD_getElem?] at h0 this
      rw [Array.getElem?_eq_getElem (by omega)] at h0 this
      simp only [Option.getD_some] at h0 this
      rw [h0] at this
      cases this
  | succ fuel ih =>
    intro listed a w hsz hc hS
    refine ⟨fun hr => hend _ a w (hfull listed hsz hr) hS, fun i hi => ?_⟩
    rw [mem_ready] at hi
    obtain ⟨h0, o, ho, hpre⟩ := hi
    have hlt := (Array.getElem?_eq_some_iff.1 ho).1
    have h0' : listed.getD i false = false := by
      simp only [Array.getD_eq_getD_getElem?] at h0 ⊢
      rw [Array.getElem?_eq_getElem (by omega)] at h0 ⊢
      exact h0
    refine wpOp_mono ?_ (hstep (fun j => listed.getD j false) i o a w ho h0' hpre hS)
    intro a' w' hS'
    refine ih (listed.setIfInBounds i true) a' w' (by simpa using hsz) ?_ ?_
    · have hsz' : i < listed.size := by omega
      have hli : listed.toList[i]'(by simpa using hsz') = false := by
        simp only [Array.getD_eq_getD_getElem?] at h0'
        rw [Array.getElem?_eq_getElem hsz'] at h0'
        simpa using h0'
      have hcs : ((listed.setIfInBounds i true).toList).count false + 1 = listed.toList.count false := by
        rw [Array.toList_setIfInBounds]
        have h1 := List.count_set (a := true) (b := false) (l := listed.toList) (i := i) (by simpa using hsz')
        have hpos : 0 < listed.toList.count false := List.count_pos_iff.2 (hli ▸ List.getElem_mem _)
        have e1 : (listed.toList[i]'(by simpa using hsz') == false) = true := by rw [hli]; rfl
        rw [h1, if_pos e1]
        simp only [Bool.true_beq, Bool.false_eq_true, if_false]
        omega
      omega
    · have e : (fun j => (listed.setIfInBounds i true).getD j false) = fun j => listed.getD j false || j == i := by
        funext j
        by_cases hij : i = j
        · subst hij
          have hsz' : i < listed.size := by omega
          simp [hsz']
        · rw [getD_set_ne false hij]
          have : (j == i) = false := by simp; exact fun h => hij h.symm
          rw [this, Bool.or_false]
      rw [e]
      exact hS'
end

/- the slots that an operation looks at; who writes a slot -/
def writer (ops : List Oper) (t : Nat) : Option Nat := ops.findIdx? (fun o => match o.dst with | some d => Nat.beq d t | none => false)
def edgeOn (o : Oper) (j : Nat) : Bool := o.after.any fun e => Region.binds .any e && Nat.beq e.on j
def seesOk (ops : List Oper) (i : Nat) (o : Oper) (t : Nat) : Bool :=
  match writer ops t with
  | none => true
  | some j => match Nat.blt j i, Nat.blt i j with
    | true, _ => edgeOn o j
    | _, true => match ops[j]? with
      | some oj => edgeOn oj i
      | none => false
    | _, _ => false
def chkOp (n : Nat) (ops : List Oper) (i : Nat) (o : Oper) : Bool :=
  (match o.dst with
    | some d => Nat.blt d n && (match writer ops d with | some j => Nat.beq j i | none => false)
    | none => false) &&
  (o.looksAt ops.toArray).all (seesOk ops i o) &&
  (o.after.all fun e => !Region.binds .any e || Nat.blt e.on i) &&
  (match o.op with | .select .. => false | _ => true)
def chk (n : Nat) (ops : List Oper) : Bool := (List.range ops.length).all fun i => match ops[i]? with
  | some o => chkOp n ops i o
  | none => true

def DRs (P : Program) (n : Nat) (ops : Array Oper) (H : World → Prop) : List Oper → Fr → Fr → Prop
  | [], l, lf => l = lf
  | o :: rest, l, lf => ∃ d v, o.dst = some d ∧ RW P n ops (Jn ((d, v) :: l) H) [o] l H ∧ DRs P n ops H rest ((d, v) :: l) lf
theorem DRs.nil {P : Program} {n : Nat} {ops : Array Oper} {H : World → Prop} {l : Fr} : DRs P n ops H [] l l := rfl
theorem DRs.cons {P : Program} {n : Nat} {ops : Array Oper} {H : World → Prop} {o : Oper} {rest : List Oper} {l lf : Fr} {d : Nat} {v : Value} (hd : o.dst = some d)
    (h : RW P n ops (Jn ((d, v) :: l) H) [o] l H) (hr : DRs P n ops H rest ((d, v) :: l) lf) : DRs P n ops H (o :: rest) l lf := ⟨d, v, hd, h, hr⟩
theorem RW.jn {P : Program} {n : Nat} {ops : Array Oper} {H : World → Prop} {l : Fr} : RW P n ops (Jn l H) [] l H := RW.nil (EX.jn (Sub.refl _) fun _ h => h)

theorem look_append (t : Nat) : ∀ (l r : Fr), look (l ++ r) t = match look l t with | some v => some v | none => look r t
  | [], r => by simp [look]
  | (d, v) :: l, r => by
    simp only [List.cons_append, look]
    split
    · rfl
    · exact look_append t l r
theorem look_some_lt {n : Nat} {l : Fr} {a : Act} (h : Agr n l a) {t : Nat} {v : Value} (hv : look l t = some v) : t < n := by
  have := (Array.getElem?_eq_some_iff.1 (h.val t v hv)).1
  rw [h.size] at this
  exact this

/-- What one operation does, told over one act, is told over another that agrees where it looks. -/
theorem wp_transfer {P : Program} {o : Oper} {a a' : Act} {w : World} {K K' : Act → World → Prop} {Q Q' : Exit → Act → World → Prop} (he : execOp a.eval o = execOp a'.eval o)
    (hk : ∀ v w', K (a.put o.dst v) w' → K' (a'.put o.dst v) w') (hdf : ∀ d v w', ¬ K ({ a with defers := d :: a.defers }.put o.dst v) w') (hp : ∀ c w', ¬ Q (.panic c) a w') (hl : ¬ LetsOut Q)
    (h : o.wp P a w K Q) : o.wp P a' w K' Q' := by
  unfold Oper.wp at *
  rw [← he]
  generalize (execOp a.eval o).run P w = r at *
  cases r with
  | ok x w' =>
    cases x <;> simp only [Oper.upon] at h ⊢
    case value v => exact hk _ _ h
    case skip => exact hk _ _ h
    case defer d => exact absurd h (hdf _ _ _)
    case enter f args =>
      refine Calls.mono h ?_
      intro e w'' hh
      cases e with
      | returned v => exact hk _ _ hh
      | panicked ch => exact absurd hh (hp _ _)
      | outgrown => exact absurd hh hl
    case row r args => exact Rows.mono h fun v w'' hh => hk _ _ hh
  | halt x w' =>
    cases x <;> simp only [Oper.upon] at h ⊢
    case panic v => exact absurd h (hp _ _)

theorem findIdx?_some_get {α : Type} {p : α → Bool} : ∀ {l : List α} {j : Nat}, l.findIdx? p = some j → ∃ x, l[j]? = some x ∧ p x = true := by
  intro l j h
  rw [List.findIdx?_eq_some_iff_getElem] at h
  obtain ⟨hlt, hp, _⟩ := h
  exact ⟨l[j], List.getElem?_eq_getElem hlt, hp⟩

/-- the frames of the text's order -/
theorem DRs.frames {P : Program} {n : Nat} {ops : Array Oper} {H : World → Prop} : ∀ (os : List Oper) (l lf : Fr), DRs P n ops H os l lf →
    ∃ vals : List Value, vals.length = os.length ∧ lf = ((os.zip vals).map (fun p => ((p.1.dst.getD 0), p.2))).reverse ++ l ∧
      ∀ (i : Nat) (o : Oper), os[i]? = some o → ∃ d v, o.dst = some d ∧ vals[i]? = some v ∧ RW P n ops (Jn ((d, v) :: (((os.zip vals).take i).map (fun p => ((p.1.dst.getD 0), p.2))).reverse ++ l) H) [o] ((((os.zip vals).take i).map (fun p => ((p.1.dst.getD 0), p.2))).reverse ++ l) H
  | [], l, lf, h => ⟨[], rfl, by simp only [DRs] at h; simp [h], fun i o h => by simp at h⟩
  | o :: os, l, lf, h => by
    obtain ⟨d, v, hd, hrw, hrest⟩ := h
    obtain ⟨vals, hl, hlf, hall⟩ := DRs.frames os _ _ hrest
    refine ⟨v :: vals, by simp [hl], by simp [hlf, hd], fun i o' ho' => ?_⟩
    cases i with
    | zero =>
      simp only [List.getElem?_cons_zero, Option.some.injEq] at ho'
      subst ho'
      exact ⟨d, v, hd, rfl, by simpa using hrw⟩
    | succ i =>
      simp only [List.getElem?_cons_succ] at ho'
      obtain ⟨d', v', h1, h2, h3⟩ := hall i o' ho'
      refine ⟨d', v', h1, by simpa using h2, ?_⟩
      simpa [hd] using h3

/-- what a slot holds in the frame of the text's order, ahead of operation i -/
theorem look_text {os : List Oper} {vals : List Value} (hl : vals.length = os.length) (hu : ∀ (i : Nat) (o : Oper) (d : Nat), os[i]? = some o → o.dst = some d → writer os d = some i) (l : Fr) (t i : Nat) (hi : i ≤ os.length) (hdst : ∀ (j : Nat) (o : Oper), os[j]? = some o → ∃ d, o.dst = some d) :
    look ((((os.zip vals).take i).map (fun p => ((p.1.dst.getD 0), p.2))).reverse ++ l) t = match writer os t with
      | some j => if j < i then vals[j]? else look l t
      | none => look l t := by
  induction i with
  | zero => simp only [List.take_zero, List.map_nil, List.reverse_nil, List.nil_append]; split <;> simp
  | succ i ih =>
    have hio : i < os.length := by omega
    have hz : (os.zip vals)[i]? = some (os[i], vals[i]'(by omega)) := by
      simp [List.getElem?_zip_eq_some, hio, hl]
    rw [List.take_add_one, hz]
    simp only [Option.toList_some, List.map_append, List.map_cons, List.map_nil, List.reverse_append, List.reverse_cons, List.reverse_nil, List.nil_append, List.singleton_append, List.cons_append]
    obtain ⟨d, hd⟩ := hdst i os[i] (List.getElem?_eq_getElem hio)
    have hw := hu i os[i] d (List.getElem?_eq_getElem hio) hd
    simp only [hd, Option.getD_some, look]
    cases hb : Nat.beq d t with
    | true =>
      have he := Nat.eq_of_beq_eq_true hb
      subst he
      simp only [hw]
      rw [if_pos (by omega), List.getElem?_eq_getElem (by omega)]
    | false =>
      have hne := Nat.ne_of_beq_eq_false hb
      simp only
      rw [ih (by omega)]
      cases hwt : writer os t with
      | none => rfl
      | some j =>
        simp only
        have hji : j ≠ i := by
          rintro rfl
          obtain ⟨x, hx, hp⟩ := findIdx?_some_get hwt
          rw [List.getElem?_eq_getElem hio] at hx
          simp only [Option.some.injEq] at hx
          subst hx
          rw [hd] at hp
          exact hne (Nat.eq_of_beq_eq_true hp)
        by_cases hjl : j < i
        · rw [if_pos hjl, if_pos (by omega)]
        · rw [if_neg hjl, if_neg (by omega)]

theorem edgeOn_mem {o : Oper} {j : Nat} (h : edgeOn o j = true) : ∃ e ∈ o.after, Region.binds .any e = true ∧ e.on = j := by
  unfold edgeOn at h
  obtain ⟨e, he, hb⟩ := Array.any_eq_true'.1 h
  simp only [Bool.and_eq_true] at hb
  exact ⟨e, he, hb.1, Nat.eq_of_beq_eq_true hb.2⟩

theorem CW.draw {P : Program} {n : Nat} {Q : Post} {l lf : Fr} {H : World → Prop} {id : Nat} {os : List Oper} (hm : P.follows .mixedOrders = true) (hchk : chk n os = true)
    (hH : ∀ w, H w → H w.drew) (h : DRs P n os.toArray H os l lf) (hQ : EX Q .normal lf H) : CW P n (.region id os.toArray true) Q l H := by
  intro w hw a ha
  obtain ⟨vals, hl, hlf, hall⟩ := h.frames
  have hck : ∀ (i : Nat) (o : Oper), os[i]? = some o → chkOp n os i o = true := by
    intro i o ho
    unfold chk at hchk
    rw [List.all_eq_true] at hchk
    have hlt := (List.getElem?_eq_some_iff.1 ho).1
    have := hchk i (by simpa using hlt)
    rwa [ho] at this
  have hpart : ∀ (i : Nat) (o : Oper), os[i]? = some o → (∃ d, o.dst = some d ∧ d < n ∧ writer os d = some i) ∧ (∀ t ∈ o.looksAt os.toArray, seesOk os i o t = true) ∧ (∀ e ∈ o.after, Region.binds .any e = true → e.on < i) ∧ (∀ cs b, o.op ≠ .select cs b) := by
    intro i o ho
    have := hck i o ho
    unfold chkOp at this
    simp only [Bool.and_eq_true] at this
    obtain ⟨⟨⟨h1, h2⟩, h3⟩, h4⟩ := this
    refine ⟨?_, fun t ht => List.all_eq_true.1 h2 t ht, fun e he hb => ?_, fun cs b hs => by rw [hs] at h4; cases h4⟩
    · cases hd : o.dst with
      | none => rw [hd] at h1; cases h1
      | some d =>
        rw [hd] at h1
        simp only [Bool.and_eq_true] at h1
        refine ⟨d, rfl, Nat.le_of_ble_eq_true h1.1, ?_⟩
        cases hwd : writer os d with
        | none => rw [hwd] at h1; cases h1.2
        | some j => rw [hwd] at h1; rw [Nat.eq_of_beq_eq_true h1.2]
    · have := Array.all_eq_true_iff_forall_mem.1 h3 e he
      simp only [Bool.or_eq_true, Bool.not_eq_true', hb] at this
      rcases this with this | this
      · cases this
      · exact Nat.le_of_ble_eq_true this
  have hu : ∀ (i : Nat) (o : Oper) (d : Nat), os[i]? = some o → o.dst = some d → writer os d = some i := by
    intro i o d ho hd
    obtain ⟨⟨d', h1, _, h3⟩, _⟩ := hpart i o ho
    rw [hd] at h1
    simp only [Option.some.injEq] at h1
    rw [h1]; exact h3
  have hdst : ∀ (j : Nat) (o : Oper), os[j]? = some o → ∃ d, o.dst = some d := fun j o ho => let ⟨⟨d, h1, _⟩, _⟩ := hpart j o ho; ⟨d, h1⟩
  -- what a slot holds when the operations of D are done
  let lookD : (Nat → Bool) → Nat → Option Value := fun D t => match writer os t with
    | some j => if D j = true then vals[j]? else look l t
    | none => look l t
  let S : (Nat → Bool) → Act → World → Prop := fun D a w => H w ∧ a.tmps.size = n ∧ a.defers = [] ∧ (∀ t v, lookD D t = some v → a.tmps[t]? = some v) ∧
    (∀ j o, os[j]? = some o → D j = true → ∀ e ∈ o.after, Region.binds .any e = true → D e.on = true)
  refine wp_region_any hm ?_
  refine any_of (P := P) (ops := os.toArray) (Q := On n Q) S ?_ ?_ ?_ _ _ a _ (by simp) (by simp) ?_
  · intro D i o a w ho hDi hpre ⟨hHw, hsz, hdf, hval, hcl⟩
    have ho' : os[i]? = some o := by simpa using ho
    have hio := (List.getElem?_eq_some_iff.1 ho').1
    obtain ⟨d, v, hd, hv, hrw⟩ := hall i o ho'
    obtain ⟨⟨d', hd', hdn, hwd⟩, hsee, hbk, hnsel⟩ := hpart i o ho'
    have hdd : d' = d := by rw [hd] at hd'; simpa using hd'.symm
    subst hdd
    let fi : Fr := (((os.zip vals).take i).map (fun p => ((p.1.dst.getD 0), p.2))).reverse ++ l
    have hfi : ∀ t, look fi t = match writer os t with
      | some j => if j < i then vals[j]? else look l t
      | none => look l t := fun t => look_text hl hu l t i (by omega) hdst
    -- where it looks, the act agrees with the text's frame
    have hagree : ∀ (t : Nat), t ∈ o.looksAt os.toArray → ∀ u, look fi t = some u → a.tmps[t]? = some u := by
      intro t ht u hu'
      have hs := hsee t ht
      rw [hfi] at hu'
      refine hval t u ?_
      show (match writer os t with
        | some j => if D j = true then vals[j]? else look l t
        | none => look l t) = some u
      unfold seesOk at hs
      cases hwt : writer os t with
      | none => rw [hwt] at hu'; exact hu'
      | some j =>
        rw [hwt] at hs hu'
        simp only at hs hu' ⊢
        cases hb1 : Nat.blt j i with
        | true =>
          rw [hb1] at hs
          obtain ⟨e, he, hbd, hej⟩ := edgeOn_mem hs
          have hDj := hpre e he hbd
          rw [hej] at hDj
          rw [if_pos (show j < i from Nat.le_of_ble_eq_true hb1)] at hu'
          rw [if_pos hDj]; exact hu'
        | false =>
          rw [hb1] at hs
          have hnji : ¬ j < i := fun hlt => by
            have : Nat.blt j i = true := Nat.ble_eq_true_of_le hlt
            rw [this] at hb1; cases hb1
          rw [if_neg hnji] at hu'
          cases hb2 : Nat.blt i j with
          | true =>
            rw [hb2] at hs
            cases hoj : os[j]? with
            | none => rw [hoj] at hs; cases hs
            | some oj =>
              rw [hoj] at hs
              obtain ⟨e, he, hbd, hei⟩ := edgeOn_mem hs
              have hDj : ¬ D j = true := fun hDj => by
                have := hcl j oj hoj hDj e he hbd
                rw [hei, hDi] at this; cases this
              rw [if_neg hDj]; exact hu'
          | false => rw [hb2] at hs; cases hs
    -- an act that agrees with the text's frame everywhere, and with this one where the operation looks
    let a1 : Act := ⟨Array.ofFn (n := n) (fun t => (look fi t.val).getD (a.tmps.getD t.val undef)), []⟩
    have hlt_fi : ∀ t u, look fi t = some u → t < n := by
      intro t u hu'
      rw [hfi] at hu'
      cases hwt : writer os t with
      | none => rw [hwt] at hu'; exact look_some_lt ha hu'
      | some j =>
        obtain ⟨x, hx, hp⟩ := findIdx?_some_get hwt
        obtain ⟨⟨dx, h1, h2, _⟩, _⟩ := hpart j x hx
        rw [h1] at hp
        have he : dx = t := Nat.eq_of_beq_eq_true hp
        rw [← he]
        exact h2
    have hag1 : Agr n fi a1 := by
      refine ⟨by simp [a1], rfl, fun t u hu' => ?_⟩
      have := hlt_fi t u hu'
      simp [a1, this, hu']
    have hsame : ∀ (t : Nat), t ∈ o.looksAt os.toArray → a1.tmps[t]? = a.tmps[t]? := by
      intro t ht
      by_cases htn : t < n
      · have ha1 : a1.tmps[t]? = some ((look fi t).getD (a.tmps.getD t undef)) := by simp [a1, htn]
        rw [ha1]
        cases hlk : look fi t with
        | some u => rw [hagree t ht u hlk]; rfl
        | none =>
          simp only [Option.getD_none, Array.getD_eq_getD_getElem?]
          rw [Array.getElem?_eq_getElem (by omega)]
          rfl
      · rw [Array.getElem?_eq_none (by simp [a1]; omega), Array.getElem?_eq_none (by omega)]
    have heval : ∀ x ∈ o.op.operands, a1.eval x = a.eval x := by
      intro x hx
      cases x with
      | tmp t =>
        have ht : t ∈ o.looksAt os.toArray := by
          unfold Oper.looksAt
          refine List.mem_append_left _ (List.mem_filterMap.2 ⟨.tmp t, by simpa using hx, rfl⟩)
        simp only [Act.eval, Array.getD_eq_getD_getElem?, hsame t ht]
      | _ => rfl
    have hexec := execOp_congr o hnsel heval
    have hwant : Region.wanted o (yielded os.toArray a1.tmps) = Region.wanted o (yielded os.toArray a.tmps) := by
      unfold Region.wanted
      cases hg : o.guard with
      | none => rfl
      | some jw =>
        obtain ⟨j, want⟩ := jw
        simp only
        congr 1
        unfold yielded
        cases hdj : (os.toArray[j]?).bind (·.dst) with
        | none => rfl
        | some t =>
          have ht : t ∈ o.looksAt os.toArray := by
            unfold Oper.looksAt
            refine List.mem_append_right _ ?_
            simp only [hg, hdj]
            simp
          simp only [Option.bind_some, hsame t ht]
    have hwp := hrw w hHw a1 hag1
    -- what the next state is
    have hnext : ∀ v' w', On n (Jn ((d', v) :: fi) H) .normal (a1.put o.dst v') w' → S (fun j => D j || j == i) (a.put o.dst v') w' := by
      rintro v' w' ⟨l1, hl1, hs1, hH1⟩
      have hv' : v' = v := by
        have h1 := hl1.val d' v (hs1 d' v (by simp [look]))
        rw [hd] at h1
        simp only [Act.put] at h1
        rw [Array.getElem?_setIfInBounds] at h1
        simp [a1, hdn] at h1
        exact h1
      subst hv'
      refine ⟨hH1, by rw [hd]; simp [Act.put, hsz], by rw [hd]; exact hdf, fun t u htu => ?_, fun j oj hoj hDj e he hbd => ?_⟩
      · rw [hd]
        simp only [Act.put]
        by_cases htd : d' = t
        · subst htd
          have : lookD (fun j => D j || j == i) d' = some v' := by
            show (match writer os d' with
              | some j => if (D j || j == i) = true then vals[j]? else look l d'
              | none => look l d') = some v'
            rw [hwd]; simp [hv]
          rw [this] at htu
          simp only [Option.some.injEq] at htu
          subst htu
          simp [hsz, hdn]
        · rw [Array.getElem?_setIfInBounds_ne htd]
          refine hval t u ?_
          rw [← htu]
          show (match writer os t with
              | some j => if D j = true then vals[j]? else look l t
              | none => look l t) = (match writer os t with
              | some j => if (D j || j == i) = true then vals[j]? else look l t
              | none => look l t)
          cases hwt : writer os t with
          | none => rfl
          | some j =>
            have hji : j ≠ i := by
              rintro rfl
              obtain ⟨x, hx, hp⟩ := findIdx?_some_get hwt
              rw [ho'] at hx
              simp only [Option.some.injEq] at hx
              subst hx
              rw [hd] at hp
              exact htd (Nat.eq_of_beq_eq_true hp)
            have : (j == i) = false := by simpa using hji
            simp [this]
      · simp only [Bool.or_eq_true, beq_iff_eq] at hDj ⊢
        rcases hDj with hDj | rfl
        · exact .inl (hcl j oj hoj hDj e he hbd)
        · rw [ho'] at hoj
          simp only [Option.some.injEq] at hoj
          subst hoj
          exact .inl (hpre e he hbd)
    unfold wpOp
    rw [ho]
    simp only
    unfold wpList at hwp
    split
    · rename_i hwn
      rw [hwant, if_pos hwn] at hwp
      rcases hwp with hwp | ⟨_, a0, w0, l0, _, hq0⟩
      · refine .inl (wp_transfer hexec (fun v' w' hk => hnext v' w' hk) ?_ ?_ ?_ hwp)
        · rintro d0 v0 w0 ⟨l0, hl0, _⟩
          have := hl0.nod
          rw [hd] at this
          simp [Act.put] at this
        · rintro c w0 ⟨l0, _, hq0⟩
          exact hq0.elim
        · rintro ⟨a0, w0, l0, _, hq0⟩
          exact hq0.elim
      · exact hq0.elim
    · rename_i hwn
      rw [hwant, if_neg hwn] at hwp
      exact hnext _ _ hwp
  · intro D a w hD ⟨hHw, hsz, hdf, hval, _⟩
    refine ⟨lf, ⟨hsz, hdf, fun t u htu => hval t u ?_⟩, hQ w hHw⟩
    rw [hlf] at htu
    have hzl : (os.zip vals).take os.length = os.zip vals := List.take_of_length_le (by simp; omega)
    rw [← hzl, look_text hl hu l t os.length (Nat.le_refl _) hdst] at htu
    rw [← htu]
    show (match writer os t with
        | some j => if D j = true then vals[j]? else look l t
        | none => look l t) = _
    cases hwt : writer os t with
    | none => rfl
    | some j =>
      obtain ⟨x, hx, _⟩ := findIdx?_some_get hwt
      have hj := (List.getElem?_eq_some_iff.1 hx).1
      simp only
      rw [if_pos (hD j (by simpa using hj)), if_pos hj]
  · intro i o ho e he hb
    obtain ⟨_, _, h3, _⟩ := hpart i o (by simpa using ho)
    exact h3 e he hb
  · refine ⟨hH w hw, ha.size, ha.nod, fun t u htu => ha.val t u ?_, fun j o _ hDj => ?_⟩
    · have hf : ∀ j, (Array.replicate os.toArray.size false).getD j false = false := by
        intro j
        simp only [Array.getD_eq_getD_getElem?, Array.getElem?_replicate]
        split <;> rfl
      rw [← htu]
      show look l t = (match writer os t with
        | some j => if (Array.replicate os.toArray.size false).getD j false = true then vals[j]? else look l t
        | none => look l t)
      cases writer os t with
      | none => rfl
      | some j => simp only [hf]; rfl
    · have hf : (Array.replicate os.toArray.size false).getD j false = false := by
        simp only [Array.getD_eq_getD_getElem?, Array.getElem?_replicate]
        split <;> rfl
      exact absurd (hf.symm.trans hDj) (by simp)
def DRq (P : Program) (n : Nat) (ops : Array Oper) (H : World → Prop) (K : Fr → Prop) : List Oper → Fr → Prop
  | [], l => K l
  | o :: rest, l => ∃ d v, o.dst = some d ∧ RW P n ops (Jn ((d, v) :: l) H) [o] l H ∧ DRq P n ops H K rest ((d, v) :: l)
theorem DRq.nil {P : Program} {n : Nat} {ops : Array Oper} {H : World → Prop} {Q : Post} {l : Fr} (h : EX Q .normal l H) : DRq P n ops H (fun lf => EX Q .normal lf H) [] l := h
theorem DRq.cons {P : Program} {n : Nat} {ops : Array Oper} {H : World → Prop} {K : Fr → Prop} {o : Oper} {rest : List Oper} {l : Fr} {d : Nat} {v : Value} (hd : o.dst = some d)
    (h : RW P n ops (Jn ((d, v) :: l) H) [o] l H) (hr : DRq P n ops H K rest ((d, v) :: l)) : DRq P n ops H K (o :: rest) l := ⟨d, v, hd, h, hr⟩
theorem DRq.out {P : Program} {n : Nat} {ops : Array Oper} {H : World → Prop} {K : Fr → Prop} : ∀ (os : List Oper) (l : Fr), DRq P n ops H K os l → ∃ lf, DRs P n ops H os l lf ∧ K lf
  | [], l, h => ⟨l, rfl, h⟩
  | o :: os, l, ⟨d, v, hd, hrw, hr⟩ => by
    obtain ⟨lf, h1, h2⟩ := DRq.out os _ hr
    exact ⟨lf, ⟨d, v, hd, hrw, h1⟩, h2⟩
theorem CW.drawq {P : Program} {n : Nat} {Q : Post} {l : Fr} {H : World → Prop} {id : Nat} {os : List Oper} (hm : P.follows .mixedOrders = true) (hchk : chk n os = true)
    (hH : ∀ w, H w → H w.drew) (h : DRq P n os.toArray H (fun lf => EX Q .normal lf H) os l) : CW P n (.region id os.toArray true) Q l H := by
  obtain ⟨lf, h1, h2⟩ := h.out
  exact CW.draw hm hchk hH h1 h2
theorem SH.drew {b : World} {S : List Nat} {cs : List Chunk} {w : World} (h : SH b S cs w) : SH b S cs w.drew := h.keep ⟨rfl, rfl, rfl, Nat.le_refl _, fun _ _ _ => rfl⟩
/-- where the ways of a piece of code meet again -/
theorem CW.join {P : Program} {n : Nat} {Q : Post} {l : Fr} {H : World → Prop} {c : Code} (l' : Fr) (H' : World → Prop) (h : CW P n c (Jn l' H') l H) (hQ : EX Q .normal l' H') : CW P n c Q l H := by
  intro w hw a ha
  refine wp_mono (h w hw a ha) ?_
  rintro e a w ⟨l1, hl1, hq⟩
  cases e with
  | normal => exact ⟨l', hl1.sub hq.1, hQ w hq.2⟩
  | _ => exact hq.elim
end Go.Proofs.Ytjmmikdbhhomiaa.Mq
