/-
  A REGION WHOSE ORDER IS DRAWN, WITH MEMORY THAT IS MADE OR WRITTEN: quiet operations (their values are settled as long as HB holds) beside a spine (operations whose order is forced). 'soft': so many of the spine's first keep HB; all quiet ones come ahead of the others.
-/
import Derived.Test.YtjmmikdbhhomiaaEq
namespace Go.Proofs.Ytjmmikdbhhomiaa.Mq
open Go Go.RowKit

def Sp1 (K : Fr → World → Prop) : Post
  | .normal, l, w => K l w
  | _, _, _ => False
def SpW (P : Program) (n : Nat) (ops : Array Oper) (HB : World → Prop) (Q : Post) : Nat → List Oper → Fr → (World → Prop) → Prop
  | _, [], l, H => EX Q .normal l H
  | 0, c :: rest, l, H => RW P n ops Q (c :: rest) l H
  | k + 1, c :: rest, l, H => RW P n ops (Sp1 (fun l' w' => HB w' ∧ SpW P n ops HB Q k rest l' (fun x => x = w'))) [c] l H
theorem SpW.sub {P : Program} {n : Nat} {ops : Array Oper} {HB : World → Prop} {Q : Post} : ∀ (k : Nat) (rest : List Oper) {l : Fr} {H H' : World → Prop}, SpW P n ops HB Q k rest l H → (∀ w, H' w → H w) → SpW P n ops HB Q k rest l H'
  | 0, [], _, _, _, h, hs => fun w hw => h w (hs w hw)
  | _ + 1, [], _, _, _, h, hs => fun w hw => h w (hs w hw)
  | 0, _ :: _, _, _, _, h, hs => RW.sub h (Sub.refl _) hs
  | _ + 1, _ :: _, _, _, _, h, hs => RW.sub h (Sub.refl _) hs
theorem SpW.soft {P : Program} {n : Nat} {ops : Array Oper} {HB : World → Prop} {Q : Post} {k : Nat} {c : Oper} {rest : List Oper} {l : Fr} {H : World → Prop}
    (h : RW P n ops (Sp1 (fun l' w' => HB w' ∧ SpW P n ops HB Q k rest l' (fun x => x = w'))) [c] l H) : SpW P n ops HB Q (k + 1) (c :: rest) l H := h
theorem RW.sp1 {P : Program} {n : Nat} {ops : Array Oper} {HB : World → Prop} {Q : Post} {k : Nat} {rest : List Oper} {l : Fr} {H : World → Prop} (hb : ∀ w, H w → HB w) (h : SpW P n ops HB Q k rest l H) :
    RW P n ops (Sp1 (fun l' w' => HB w' ∧ SpW P n ops HB Q k rest l' (fun x => x = w'))) [] l H :=
  RW.nil fun w hw => ⟨hb w hw, SpW.sub k rest h (fun _ e => e ▸ hw)⟩
theorem SpW.hard {P : Program} {n : Nat} {ops : Array Oper} {HB : World → Prop} {Q : Post} {c : Oper} {rest : List Oper} {l : Fr} {H : World → Prop} (h : RW P n ops Q (c :: rest) l H) : SpW P n ops HB Q 0 (c :: rest) l H := h

/- the quiet ones, in the text's order -/
def QuW (P : Program) (n : Nat) (ops : Array Oper) (HB : World → Prop) (K : Fr → Prop) : List (Bool × Oper) → Fr → Prop
  | [], l => K l
  | (false, _) :: rest, l => QuW P n ops HB K rest l
  | (true, o) :: rest, l => ∃ d v, o.dst = some d ∧ (∀ w, HB w → RW P n ops (Jn ((d, v) :: l) (fun x => x = w)) [o] l (fun x => x = w)) ∧ QuW P n ops HB K rest ((d, v) :: l)
theorem QuW.nil {P : Program} {n : Nat} {ops : Array Oper} {HB : World → Prop} {K : Fr → Prop} {l : Fr} (h : K l) : QuW P n ops HB K [] l := h
theorem QuW.skip {P : Program} {n : Nat} {ops : Array Oper} {HB : World → Prop} {K : Fr → Prop} {l : Fr} {o : Oper} {rest : List (Bool × Oper)} (h : QuW P n ops HB K rest l) : QuW P n ops HB K ((false, o) :: rest) l := h
theorem QuW.cons {P : Program} {n : Nat} {ops : Array Oper} {HB : World → Prop} {K : Fr → Prop} {l : Fr} {o : Oper} {rest : List (Bool × Oper)} {d : Nat} {v : Value} (hd : o.dst = some d)
    (h : ∀ w, HB w → RW P n ops (Jn ((d, v) :: l) (fun x => x = w)) [o] l (fun x => x = w)) (hr : QuW P n ops HB K rest ((d, v) :: l)) : QuW P n ops HB K ((true, o) :: rest) l := ⟨d, v, hd, h, hr⟩

def spineOf (qs : List Bool) (os : List Oper) : List Oper := ((qs.zip os).filter (fun p => !p.1)).map (·.2)

/- which operations come ahead of one, along edges -/
def edgeAt (os : List Oper) (i j : Nat) : Bool := match os[i]? with
  | some o => edgeOn o j
  | none => false
def aheadOf (os : List Oper) (i : Nat) : Nat → List Nat
  | 0 => []
  | k + 1 =>   -- the candidates i-1 .. i-1-k
    let p := aheadOf os i k
    let j := i - 1 - k
    if Nat.blt k i && (edgeAt os i j || p.any (fun m => edgeAt os m j)) then j :: p else p
theorem aheadOf_done {os : List Oper} {D : Nat → Bool} {i : Nat} (hcl : ∀ (j : Nat) (o : Oper), os[j]? = some o → D j = true → ∀ e ∈ o.after, Region.binds .any e = true → D e.on = true)
    (hi : ∀ (o : Oper), os[i]? = some o → ∀ e ∈ o.after, Region.binds .any e = true → D e.on = true) : ∀ (k : Nat), ∀ j ∈ aheadOf os i k, D j = true := by
  intro k
  induction k with
  | zero => intro j hj; simp [aheadOf] at hj
  | succ k ih =>
    intro j hj
    unfold aheadOf at hj
    simp only at hj
    split at hj
    · rename_i h
      rcases List.mem_cons.1 hj with rfl | hj
      · simp only [Bool.and_eq_true, Bool.or_eq_true, List.any_eq_true] at h
        rcases h.2 with h | ⟨m, hm, h⟩
        · unfold edgeAt at h
          cases ho : os[i]? with
          | none => rw [ho] at h; cases h
          | some o =>
            rw [ho] at h
            obtain ⟨e, he, hb, heq⟩ := edgeOn_mem h
            rw [← heq]; exact hi o ho e he hb
        · unfold edgeAt at h
          cases ho : os[m]? with
          | none => rw [ho] at h; cases h
          | some o =>
            rw [ho] at h
            obtain ⟨e, he, hb, heq⟩ := edgeOn_mem h
            rw [← heq]; exact hcl m o ho (ih m hm) e he hb
      · exact ih j hj
    · exact ih j hj

/- the check: slots as before, but the spine may have none; the spine's order is forced; the quiet ones look at quiet slots alone; ahead of the first hard one of the spine come all quiet ones -/
def spineIx (qs : List Bool) : List Nat := (List.range qs.length).filter (fun i => match qs[i]? with
  | some q => !q
  | none => false)
def chkOpS (n : Nat) (qs : List Bool) (ops : List Oper) (i : Nat) (o : Oper) : Bool :=
  (match o.dst with
    | some d => Nat.blt d n && (match writer ops d with | some j => Nat.beq j i | none => false)
    | none => match qs[i]? with
      | some q => !q
      | none => false) &&
  (o.looksAt ops.toArray).all (seesOk ops i o) &&
  (match qs[i]? with
    | some true => (o.looksAt ops.toArray).all (fun t => match writer ops t with
      | none => true
      | some j => match qs[j]? with
        | some true => true
        | _ => Nat.blt i j)
    | _ => (o.looksAt ops.toArray).all (fun t => match writer ops t with
      | none => true
      | some j => match qs[j]? with
        | some true => Nat.blt j i
        | _ => true)) &&
  (o.after.all fun e => !Region.binds .any e || Nat.blt e.on i) &&
  (match o.op with | .select .. => false | _ => true)
def chain (ops : List Oper) : List Nat → Bool
  | i :: j :: rest => edgeAt ops j i && chain ops (j :: rest)
  | _ => true
def chkS (n soft : Nat) (qs : List Bool) (ops : List Oper) : Bool :=
  Nat.beq qs.length ops.length &&
  ((List.range ops.length).all fun i => match ops[i]? with
    | some o => chkOpS n qs ops i o
    | none => true) &&
  chain ops (spineIx qs) &&
  (match (spineIx qs)[soft]? with
    | none => true
    | some h => (List.range qs.length).all fun q => match qs[q]? with
      | some true => (aheadOf ops h h).any (Nat.beq q)
      | _ => true)

theorem wp_transfer2 {P : Program} {o : Oper} {a a' : Act} {w : World} {K K' : Act → World → Prop} {Q Q' : Exit → Act → World → Prop} (he : execOp a.eval o = execOp a'.eval o) (hd : a.defers = a'.defers)
    (hk : ∀ df v w', K ({ a with defers := df }.put o.dst v) w' → K' ({ a' with defers := df }.put o.dst v) w') (hp : ∀ c w', ¬ Q (.panic c) a w') (hl : ¬ LetsOut Q)
    (h : o.wp P a w K Q) : o.wp P a' w K' Q' := by
  have hk0 : ∀ v w', K (a.put o.dst v) w' → K' (a'.put o.dst v) w' := fun v w' hh => by
    have := hk a.defers v w' hh
    rw [hd] at this
    exact this
  unfold Oper.wp at *
  rw [← he]
  generalize (execOp a.eval o).run P w = r at *
  cases r with
  | ok x w' =>
    cases x <;> simp only [Oper.upon] at h ⊢
    case value v => exact hk0 _ _ h
    case skip => exact hk0 _ _ h
    case defer d => rw [← hd]; exact hk _ _ _ h
    case enter f args =>
      refine Calls.mono h ?_
      intro e w'' hh
      cases e with
      | returned v => exact hk0 _ _ hh
      | panicked ch => exact absurd hh (hp _ _)
      | outgrown => exact absurd hh hl
    case row r args => exact Rows.mono h fun v w'' hh => hk0 _ _ hh
  | halt x w' =>
    cases x <;> simp only [Oper.upon] at h ⊢
    case panic v => exact absurd h (hp _ _)

/-- a post that lets no panic by -/
structure NoP (Q : Post) : Prop where
  prf : ∀ l w, (∀ c, ¬ Q (.panic c) l w) ∧ ¬ Q .outgrown l w
theorem NoP.sq {K : Fr → World → Prop} {Q : Post} (h : NoP Q) : NoP (Sq K Q) := ⟨h.prf⟩
theorem NoP.bk {i : Nat} {Q : Post} (h : NoP Q) : NoP (Bk i Q) := ⟨h.prf⟩
theorem NoP.lp {ι : Type} {fr : ι → Fr} {Hi : ι → World → Prop} {ok : ι → Prop} {μ : ι → Nat} {m : Nat} {Q : Post} (h : NoP Q) : NoP (Lp fr Hi ok μ m Q) := ⟨h.prf⟩
theorem NoP.fin {P : Program} {n : Nat} {fn : Func} {R : Ending → World → Prop} : NoP (Fin P n fn R) := ⟨fun _ _ => ⟨fun _ h => h, fun h => h⟩⟩
theorem NoP.jn {l' : Fr} {H' : World → Prop} : NoP (Jn l' H') := ⟨fun _ _ => ⟨fun _ h => h, fun h => h⟩⟩
theorem NoP.on {n : Nat} {Q : Post} (h : NoP Q) {a : Act} {w : World} : (∀ c, ¬ On n Q (.panic c) a w) ∧ ¬ LetsOut (On n Q) :=
  ⟨fun c ⟨l, _, hq⟩ => (h.prf l w).1 c hq, fun ⟨_, w, l, _, hq⟩ => (h.prf l w).2 hq⟩

/- the quiet frames -/
def qfr (ps : List (Bool × Oper)) (vals : List Value) (i : Nat) : Fr := (((ps.zip vals).take i).filterMap (fun p => if p.1.1 = true then some (p.1.2.dst.getD 0, p.2) else none)).reverse
theorem QuW.out {P : Program} {n : Nat} {ops : Array Oper} {HB : World → Prop} {K : Fr → Prop} : ∀ (ps : List (Bool × Oper)) (l : Fr), QuW P n ops HB K ps l →
    ∃ vals : List Value, vals.length = ps.length ∧ K (qfr ps vals ps.length ++ l) ∧ ∀ (i : Nat) (o : Oper), ps[i]? = some (true, o) → ∃ d v, o.dst = some d ∧ vals[i]? = some v ∧
      ∀ w, HB w → RW P n ops (Jn ((d, v) :: (qfr ps vals i ++ l)) (fun x => x = w)) [o] (qfr ps vals i ++ l) (fun x => x = w)
  | [], l, h => ⟨[], rfl, by have h' : K l := h; simpa [qfr] using h', fun i o h => by simp at h⟩
  | (false, o) :: rest, l, h => by
    obtain ⟨vals, h1, h2, h3⟩ := QuW.out rest l h
    refine ⟨undef :: vals, by simp [h1], by simpa [qfr] using h2, fun i o' hi => ?_⟩
    cases i with
    | zero => simp at hi
    | succ i =>
      obtain ⟨d, v, a1, a2, a3⟩ := h3 i o' (by simpa using hi)
      exact ⟨d, v, a1, by simpa using a2, fun w hw => by simpa [qfr] using a3 w hw⟩
  | (true, o) :: rest, l, h => by
    obtain ⟨d, v, hd, hrw, hr⟩ := h
    obtain ⟨vals, h1, h2, h3⟩ := QuW.out rest _ hr
    refine ⟨v :: vals, by simp [h1], by simpa [qfr, hd] using h2, fun i o' hi => ?_⟩
    cases i with
    | zero =>
      simp only [List.getElem?_cons_zero, Option.some.injEq, Prod.mk.injEq, true_and] at hi
      subst hi
      exact ⟨d, v, hd, rfl, fun w hw => by simpa [qfr] using hrw w hw⟩
    | succ i =>
      obtain ⟨d', v', a1, a2, a3⟩ := h3 i o' (by simpa using hi)
      exact ⟨d', v', a1, by simpa using a2, fun w hw => by simpa [qfr, hd] using a3 w hw⟩
theorem look_qfr {os : List Oper} {qs : List Bool} {vals : List Value} (hl : vals.length = os.length) (hq : qs.length = os.length) (hu : ∀ (i : Nat) (o : Oper) (d : Nat), os[i]? = some o → o.dst = some d → writer os d = some i) (l : Fr) (t : Nat)
    (hdst : ∀ (j : Nat) (o : Oper), os[j]? = some o → qs[j]? = some true → ∃ d, o.dst = some d) : ∀ (i : Nat), i ≤ os.length →
    look (qfr (qs.zip os) vals i ++ l) t = match writer os t with
      | some j => if j < i ∧ qs[j]? = some true then vals[j]? else look l t
      | none => look l t := by
  intro i
  induction i with
  | zero => intro _; simp only [qfr, List.take_zero, List.filterMap_nil, List.reverse_nil, List.nil_append]; split <;> simp
  | succ i ih =>
    intro hi
    have hio : i < os.length := by omega
    have hz : ((qs.zip os).zip vals)[i]? = some ((qs[i]'(by omega), os[i]), vals[i]'(by omega)) := by
      simp [List.getElem?_zip_eq_some, hio, hl, hq]
    have hqi : qs[i]? = some (qs[i]'(by omega)) := List.getElem?_eq_getElem _
    unfold qfr
    rw [List.take_add_one, hz]
    cases hb : qs[i]'(by omega) with
    | false =>
      rw [hb] at hqi
      simp only [Option.toList_some, List.filterMap_append, List.filterMap_cons, List.filterMap_nil, Bool.false_eq_true, if_false, List.append_nil]
      have := ih (by omega)
      unfold qfr at this
      rw [this]
      cases hw : writer os t with
      | none => rfl
      | some j =>
        simp only
        by_cases hji : j = i
        · subst hji; simp [hqi]
        · have : j < i ↔ j < i + 1 := by omega
          simp [this]
    | true =>
      rw [hb] at hqi
      obtain ⟨d, hd⟩ := hdst i os[i] (List.getElem?_eq_getElem hio) hqi
      have hw := hu i os[i] d (List.getElem?_eq_getElem hio) hd
      simp only [Option.toList_some, List.filterMap_append, List.filterMap_cons, List.filterMap_nil, if_true, hd, Option.getD_some, List.reverse_append, List.reverse_cons, List.reverse_nil, List.nil_append, List.singleton_append, List.cons_append, look]
      cases hbt : Nat.beq d t with
      | true =>
        have he := Nat.eq_of_beq_eq_true hbt
        subst he
        simp only [hw]
        rw [if_pos ⟨by omega, hqi⟩, List.getElem?_eq_getElem (by omega)]
      | false =>
        have hne := Nat.ne_of_beq_eq_false hbt
        simp only
        have := ih (by omega)
        unfold qfr at this
        rw [this]
        cases hwt : writer os t with
        | none => rfl
        | some j =>
          simp only
          have hji : j ≠ i := by
            rintro rfl
            obtain ⟨x, hx, hp⟩ := findIdx?_some_get hwt
            rw [List.getElem?_eq_getElem hio] at hx
            simp only [Option.some.injEq] at hx
            subst hx
            rw [hd] at hp
            exact hne (Nat.eq_of_beq_eq_true hp)
          have : j < i ↔ j < i + 1 := by omega
          simp [this]

def Ph (P : Program) (n : Nat) (ops : Array Oper) (HB : World → Prop) (Q : Post) (k : Nat) (rest : List Oper) (a : Act) (w : World) : Prop :=
  (∃ l, Agr n l a ∧ SpW P n ops HB Q k rest l (fun x => x = w)) ∨ (k = 0 ∧ wpList P ops (On n Q) rest a w)
theorem spine_get {qs : List Bool} {os : List Oper} (hq : qs.length = os.length) : spineOf qs os = (spineIx qs).map (fun i => os.getD i default) := by
  unfold spineOf spineIx
  have key : ∀ (k : Nat), k ≤ os.length → (((qs.zip os).take k).filter (fun p => !p.1)).map (·.2) = ((List.range k).filter (fun i => match qs[i]? with | some q => !q | none => false)).map (fun i => os.getD i default) := by
    intro k
    induction k with
    | zero => intro _; simp
    | succ k ih =>
      intro hk
      have hz : (qs.zip os)[k]? = some (qs[k]'(by omega), os[k]'(by omega)) := by simp [List.getElem?_zip_eq_some, hq]
      have hqk : qs[k]? = some (qs[k]'(by omega)) := List.getElem?_eq_getElem _
      have hok : os.getD k default = os[k]'(by omega) := by simp [List.getD, List.getElem?_eq_getElem (show k < os.length by omega)]
      rw [List.take_add_one, hz, List.range_succ]
      simp only [Option.toList_some, List.filter_append, List.map_append, ih (by omega)]
      congr 1
      cases hb : qs[k]'(by omega) <;> simp [hqk, hb, List.getElem?_eq_getElem (show k < os.length by omega)]
  have := key os.length (Nat.le_refl _)
  rw [List.take_of_length_le (by simp; omega)] at this
  rw [this, hq]
theorem mem_spineIx {qs : List Bool} {i : Nat} : i ∈ spineIx qs ↔ qs[i]? = some false := by
  unfold spineIx
  rw [List.mem_filter, List.mem_range]
  constructor
  · rintro ⟨_, h⟩
    cases hq : qs[i]? with
    | none => rw [hq] at h; cases h
    | some b => rw [hq] at h; cases b <;> simp_all
  · intro h
    refine ⟨(List.getElem?_eq_some_iff.1 h).1, by rw [h]; rfl⟩
theorem chain_get {ops : List Oper} : ∀ (l : List Nat) (k : Nat) (i j : Nat), chain ops l = true → l[k]? = some i → l[k + 1]? = some j → edgeAt ops j i = true
  | [], k, i, j, _, h, _ => by simp at h
  | [x], k, i, j, _, _, h => by simp at h
  | x :: y :: l, k, i, j, hc, hi, hj => by
    simp only [chain, Bool.and_eq_true] at hc
    cases k with
    | zero =>
      simp at hi hj
      subst hi; subst hj
      exact hc.1
    | succ k => exact chain_get (y :: l) k i j hc.2 (by simpa using hi) (by simpa using hj)
theorem spineIx_inj {qs : List Bool} {k k' i : Nat} (h1 : (spineIx qs)[k]? = some i) (h2 : (spineIx qs)[k']? = some i) : k = k' := by
  have hn : (spineIx qs).Pairwise (· ≠ ·) := List.Pairwise.filter _ List.nodup_range
  obtain ⟨hk, e1⟩ := List.getElem?_eq_some_iff.1 h1
  obtain ⟨hk', e2⟩ := List.getElem?_eq_some_iff.1 h2
  rw [List.pairwise_iff_getElem] at hn
  rcases Nat.lt_trichotomy k k' with h | h | h
  · exact absurd (e1.trans e2.symm) (hn k k' hk hk' h)
  · exact h
  · exact absurd (e2.trans e1.symm) (hn k' k hk' hk h)

theorem CW.drawS {P : Program} {n : Nat} {Q : Post} {l : Fr} {H : World → Prop} {id : Nat} {os : List Oper} (qs : List Bool) (soft : Nat) (HB : World → Prop) (hm : P.follows .mixedOrders = true) (hchk : chkS n soft qs os = true)
    (hH : ∀ w, H w → H w.drew) (hHB : ∀ w, H w → HB w) (hnp : NoP Q)
    (h : QuW P n os.toArray HB (fun lq => SpW P n os.toArray HB Q soft (spineOf qs os) lq H) (qs.zip os) l) : CW P n (.region id os.toArray true) Q l H := by
  intro w hw a ha
  obtain ⟨vals, hl, hsp, hall⟩ := h.out
  unfold chkS at hchk
  simp only [Bool.and_eq_true] at hchk
  obtain ⟨⟨⟨hq0, hck0⟩, hchain⟩, hhard⟩ := hchk
  have hq : qs.length = os.length := Nat.eq_of_beq_eq_true hq0
  have hlz : (qs.zip os).length = os.length := by simp; omega
  rw [hlz] at hl hsp
  have hck : ∀ (i : Nat) (o : Oper), os[i]? = some o → chkOpS n qs os i o = true := by
    intro i o ho
    rw [List.all_eq_true] at hck0
    have hlt := (List.getElem?_eq_some_iff.1 ho).1
    have := hck0 i (by simpa using hlt)
    rwa [ho] at this
  have hpart : ∀ (i : Nat) (o : Oper), os[i]? = some o → (∀ d, o.dst = some d → d < n ∧ writer os d = some i) ∧ (qs[i]? = some true → ∃ d, o.dst = some d) ∧ (∀ t ∈ o.looksAt os.toArray, seesOk os i o t = true) ∧
      (qs[i]? = some true → ∀ t ∈ o.looksAt os.toArray, ∀ j, writer os t = some j → qs[j]? = some true ∨ i < j) ∧ (qs[i]? = some false → ∀ t ∈ o.looksAt os.toArray, ∀ j, writer os t = some j → qs[j]? = some true → j < i) ∧
      (∀ e ∈ o.after, Region.binds .any e = true → e.on < i) ∧ (∀ cs b, o.op ≠ .select cs b) := by
    intro i o ho
    have := hck i o ho
    unfold chkOpS at this
    simp only [Bool.and_eq_true] at this
    obtain ⟨⟨⟨⟨h1, h2⟩, h3⟩, h4⟩, h5⟩ := this
    refine ⟨fun d hd => ?_, fun hqi => ?_, fun t ht => List.all_eq_true.1 h2 t ht, fun hqi t ht j hj => ?_, fun hqi t ht j hj hqj => ?_, fun e he hb => ?_, fun cs b hs => by rw [hs] at h5; cases h5⟩
    · rw [hd] at h1
      simp only [Bool.and_eq_true] at h1
      refine ⟨Nat.le_of_ble_eq_true h1.1, ?_⟩
      cases hwd : writer os d with
      | none => rw [hwd] at h1; cases h1.2
      | some j => rw [hwd] at h1; rw [Nat.eq_of_beq_eq_true h1.2]
    · cases hd : o.dst with
      | some d => exact ⟨d, rfl⟩
      | none => rw [hd, hqi] at h1; cases h1
    · rw [hqi] at h3
      have := List.all_eq_true.1 h3 t ht
      rw [hj] at this
      simp only at this
      cases hqj : qs[j]? with
      | none => rw [hqj] at this; exact .inr (Nat.le_of_ble_eq_true this)
      | some b =>
        cases b with
        | true => exact .inl rfl
        | false => rw [hqj] at this; exact .inr (Nat.le_of_ble_eq_true this)
    · rw [hqi] at h3
      have := List.all_eq_true.1 h3 t ht
      rw [hj] at this
      simp only [hqj] at this
      exact Nat.le_of_ble_eq_true this
    · have := Array.all_eq_true_iff_forall_mem.1 h4 e he
      simp only [Bool.or_eq_true, Bool.not_eq_true', hb] at this
      rcases this with this | this
      · cases this
      · exact Nat.le_of_ble_eq_true this
  have hu : ∀ (i : Nat) (o : Oper) (d : Nat), os[i]? = some o → o.dst = some d → writer os d = some i := fun i o d ho hd => ((hpart i o ho).1 d hd).2
  have hdst : ∀ (j : Nat) (o : Oper), os[j]? = some o → qs[j]? = some true → ∃ d, o.dst = some d := fun j o ho hqj => (hpart j o ho).2.1 hqj
  have hlook := fun t => look_qfr (vals := vals) hl hq hu l t hdst
  -- every slot that the region writes is written by an operation of it
  have hwr : ∀ t j, writer os t = some j → ∃ o, os[j]? = some o ∧ o.dst = some t := by
    intro t j hwt
    obtain ⟨x, hx, hp⟩ := findIdx?_some_get hwt
    refine ⟨x, hx, ?_⟩
    cases hd : x.dst with
    | none => rw [hd] at hp; cases hp
    | some d => rw [hd] at hp; rw [Nat.eq_of_beq_eq_true hp]
  let qt : Nat → Prop := fun j => qs[j]? = some true
  let lookD : (Nat → Bool) → Nat → Option Value := fun D t => match writer os t with
    | some j => if D j = true then (if qs[j]? = some true then vals[j]? else none) else look l t
    | none => look l t
  let S : (Nat → Bool) → Act → World → Prop := fun D a w => ∃ (j : Nat) (b : Act),
    (∀ k i, (spineIx qs)[k]? = some i → (D i = true ↔ k < j)) ∧ a.tmps.size = n ∧ b.tmps.size = n ∧ a.defers = b.defers ∧
    (∀ t, (∃ q, writer os t = some q ∧ qs[q]? = some true ∧ D q = false) ∨ a.tmps[t]? = b.tmps[t]?) ∧
    (∀ (q : Nat) (o : Oper) (d : Nat), qs[q]? = some true → os[q]? = some o → o.dst = some d → b.tmps[d]? = vals[q]?) ∧
    (∀ t v, lookD D t = some v → a.tmps[t]? = some v) ∧
    (∀ (j : Nat) (o : Oper), os[j]? = some o → D j = true → ∀ e ∈ o.after, Region.binds .any e = true → D e.on = true) ∧
    ((∃ q, qs[q]? = some true ∧ D q = false) → HB w) ∧ Ph P n os.toArray HB Q (soft - j) ((spineOf qs os).drop j) b w
  refine wp_region_any hm ?_
  refine any_of (P := P) (ops := os.toArray) (Q := On n Q) S ?_ ?_ ?_ _ _ a _ (by simp) (by simp) ?_
  · rintro D i o a w ho hDi hpre ⟨j, b, hspD, hsa, hsb, hdf, hrel, hbq, hval, hcl, hhb, hph⟩
    have ho' : os[i]? = some o := by simpa using ho
    have hio := (List.getElem?_eq_some_iff.1 ho').1
    obtain ⟨hd1, _, hsee, hqsee, hspsee, hbk, hnsel⟩ := hpart i o ho'
    have hqi : qs[i]? = some (qs[i]'(by omega)) := List.getElem?_eq_getElem _
    -- whatever i is: the closure goes on
    have hcl' : ∀ (j : Nat) (o' : Oper), os[j]? = some o' → (D j || j == i) = true → ∀ e ∈ o'.after, Region.binds .any e = true → (D e.on || e.on == i) = true := by
      intro j' o' ho2 hDj e he hbd
      simp only [Bool.or_eq_true, beq_iff_eq] at hDj ⊢
      rcases hDj with hDj | rfl
      · exact .inl (hcl j' o' ho2 hDj e he hbd)
      · rw [ho'] at ho2
        simp only [Option.some.injEq] at ho2
        subst ho2
        exact .inl (hpre e he hbd)
    unfold wpOp
    rw [ho]
    simp only
    cases hb : qs[i]'(by omega) with
    | true =>
      -- a quiet one
      rw [hb] at hqi
      obtain ⟨d, v, hd, hv, hrw⟩ := hall i o (by rw [List.getElem?_zip_eq_some]; exact ⟨hqi, ho'⟩)
      obtain ⟨hdn, hwd⟩ := hd1 d hd
      have hHBw : HB w := hhb ⟨i, hqi, hDi⟩
      let fi : Fr := qfr (qs.zip os) vals i ++ l
      have hfi : ∀ t, look fi t = match writer os t with
        | some j => if j < i ∧ qs[j]? = some true then vals[j]? else look l t
        | none => look l t := fun t => hlook t i (by omega)
      have hagree : ∀ (t : Nat), t ∈ o.looksAt os.toArray → ∀ u, look fi t = some u → a.tmps[t]? = some u := by
        intro t ht u hu'
        have hs := hsee t ht
        rw [hfi] at hu'
        refine hval t u ?_
        show (match writer os t with
          | some j => if D j = true then (if qs[j]? = some true then vals[j]? else none) else look l t
          | none => look l t) = some u
        unfold seesOk at hs
        cases hwt : writer os t with
        | none => rw [hwt] at hu'; exact hu'
        | some j' =>
          rw [hwt] at hs hu'
          simp only at hs hu' ⊢
          cases hb1 : Nat.blt j' i with
          | true =>
            rw [hb1] at hs
            have hji : j' < i := Nat.le_of_ble_eq_true hb1
            obtain ⟨e, he, hbd, hej⟩ := edgeOn_mem hs
            have hDj := hpre e he hbd
            rw [hej] at hDj
            rcases hqsee hqi t ht j' hwt with hqj | hlt
            · rw [if_pos ⟨hji, hqj⟩] at hu'
              rw [if_pos hDj, if_pos hqj]; exact hu'
            · omega
          | false =>
            rw [hb1] at hs
            have hnji : ¬ j' < i := fun hlt => by
              have : Nat.blt j' i = true := Nat.ble_eq_true_of_le hlt
              rw [this] at hb1; cases hb1
            rw [if_neg (fun h => hnji h.1)] at hu'
            cases hb2 : Nat.blt i j' with
            | true =>
              rw [hb2] at hs
              cases hoj : os[j']? with
              | none => rw [hoj] at hs; cases hs
              | some oj =>
                rw [hoj] at hs
                obtain ⟨e, he, hbd, hei⟩ := edgeOn_mem hs
                have hDj : ¬ D j' = true := fun hDj => by
                  have := hcl j' oj hoj hDj e he hbd
                  rw [hei, hDi] at this; cases this
                rw [if_neg hDj]; exact hu'
            | false => rw [hb2] at hs; cases hs
      let a1 : Act := ⟨Array.ofFn (n := n) (fun t => (look fi t.val).getD (a.tmps.getD t.val undef)), []⟩
      have hlt_fi : ∀ (t : Nat) u, look fi t = some u → t < n := by
        intro t u hu'
        rw [hfi] at hu'
        cases hwt : writer os t with
        | none => rw [hwt] at hu'; exact look_some_lt ha hu'
        | some j' =>
          obtain ⟨x, hx, hxd⟩ := hwr t j' hwt
          exact ((hpart j' x hx).1 t hxd).1
      have hag1 : Agr n fi a1 := by
        refine ⟨by simp [a1], rfl, fun t u hu' => ?_⟩
        have := hlt_fi t u hu'
        simp [a1, this, hu']
      have hsame : ∀ (t : Nat), t ∈ o.looksAt os.toArray → a1.tmps[t]? = a.tmps[t]? := by
        intro t ht
        by_cases htn : t < n
        · have ha1 : a1.tmps[t]? = some ((look fi t).getD (a.tmps.getD t undef)) := by simp [a1, htn]
          rw [ha1]
          cases hlk : look fi t with
          | some u => rw [hagree t ht u hlk]; rfl
          | none =>
            simp only [Option.getD_none, Array.getD_eq_getD_getElem?]
            rw [Array.getElem?_eq_getElem (by omega)]
            rfl
        · rw [Array.getElem?_eq_none (by simp [a1]; omega), Array.getElem?_eq_none (by omega)]
      have heval : ∀ x ∈ o.op.operands, a1.eval x = a.eval x := by
        intro x hx
        cases x with
        | tmp t =>
          have ht : t ∈ o.looksAt os.toArray := by
            unfold Oper.looksAt
            refine List.mem_append_left _ (List.mem_filterMap.2 ⟨.tmp t, by simpa using hx, rfl⟩)
          simp only [Act.eval, Array.getD_eq_getD_getElem?, hsame t ht]
        | _ => rfl
      have hexec := execOp_congr o hnsel heval
      have hwant : Region.wanted o (yielded os.toArray a1.tmps) = Region.wanted o (yielded os.toArray a.tmps) := by
        unfold Region.wanted
        cases hg : o.guard with
        | none => rfl
        | some jw =>
          obtain ⟨j', want⟩ := jw
          simp only
          congr 1
          unfold yielded
          cases hdj : (os.toArray[j']?).bind (·.dst) with
          | none => rfl
          | some t =>
            have ht : t ∈ o.looksAt os.toArray := by
              unfold Oper.looksAt
              refine List.mem_append_right _ ?_
              simp only [hg, hdj]
              simp
            simp only [Option.bind_some, hsame t ht]
      have hwp := hrw w hHBw w rfl a1 hag1
      have hnext : ∀ v' w', On n (Jn ((d, v) :: fi) (fun x => x = w)) .normal (a1.put o.dst v') w' → S (fun j => D j || j == i) (a.put o.dst v') w' := by
        rintro v' w' ⟨l1, hl1, hs1, rfl⟩
        have hv' : v' = v := by
          have h1 := hl1.val d v (hs1 d v (by simp [look]))
          rw [hd] at h1
          simp only [Act.put] at h1
          rw [Array.getElem?_setIfInBounds] at h1
          simp [a1, hdn] at h1
          exact h1
        subst hv'
        have hni : ∀ k, (spineIx qs)[k]? ≠ some i := fun k hk => by
          have := mem_spineIx.1 (List.mem_of_getElem? hk)
          rw [hqi] at this; cases this
        refine ⟨j, b, fun k i' hk => ?_, by rw [hd]; simp [Act.put, hsa], hsb, by rw [hd]; exact hdf, fun t => ?_, hbq, fun t u htu => ?_, hcl', fun ⟨q, hq1, hq2⟩ => hhb ⟨q, hq1, ?_⟩, hph⟩
        · have hne : i' ≠ i := fun e => hni k (e ▸ hk)
          have : (i' == i) = false := by simpa using hne
          simp only [this, Bool.or_false]
          exact hspD k i' hk
        · rw [hd]
          simp only [Act.put]
          by_cases htd : d = t
          · subst htd
            right
            rw [hbq i o d hqi ho' hd, hv]
            simp [hsa, hdn]
          · rw [Array.getElem?_setIfInBounds_ne htd]
            rcases hrel t with ⟨q, h1, h2, h3⟩ | h1
            · by_cases hqe : q = i
              · subst hqe
                obtain ⟨x, hx, hxd⟩ := hwr t q h1
                rw [ho'] at hx
                simp only [Option.some.injEq] at hx
                subst hx
                rw [hd] at hxd
                simp only [Option.some.injEq] at hxd
                exact absurd hxd htd
              · exact .inl ⟨q, h1, h2, by simp [h3, hqe]⟩
            · exact .inr h1
        · rw [hd]
          simp only [Act.put]
          by_cases htd : d = t
          · subst htd
            have : lookD (fun j => D j || j == i) d = some v' := by
              show (match writer os d with
                | some j => if (D j || j == i) = true then (if qs[j]? = some true then vals[j]? else none) else look l d
                | none => look l d) = some v'
              rw [hwd]; simp [hv, hqi]
            rw [this] at htu
            simp only [Option.some.injEq] at htu
            subst htu
            simp [hsa, hdn]
          · rw [Array.getElem?_setIfInBounds_ne htd]
            refine hval t u ?_
            rw [← htu]
            show (match writer os t with
                | some j => if D j = true then (if qs[j]? = some true then vals[j]? else none) else look l t
                | none => look l t) = (match writer os t with
                | some j => if (D j || j == i) = true then (if qs[j]? = some true then vals[j]? else none) else look l t
                | none => look l t)
            cases hwt : writer os t with
            | none => rfl
            | some j' =>
              have hji : j' ≠ i := by
                rintro rfl
                obtain ⟨x, hx, hxd⟩ := hwr t j' hwt
                rw [ho'] at hx
                simp only [Option.some.injEq] at hx
                subst hx
                rw [hd] at hxd
                simp only [Option.some.injEq] at hxd
                exact htd hxd
              have : (j' == i) = false := by simpa using hji
              simp [this]
        · simp only [Bool.or_eq_false_iff] at hq2
          exact hq2.1
      unfold wpList at hwp
      split
      · rename_i hwn
        rw [hwant, if_pos hwn] at hwp
        rcases hwp with hwp | ⟨_, a0, w0, l0, _, hq0⟩
        · refine .inl (wp_transfer hexec (fun v' w' hk => hnext v' w' hk) ?_ ?_ ?_ hwp)
          · rintro d0 v0 w0 ⟨l0, hl0, _⟩
            have := hl0.nod
            rw [hd] at this
            simp [Act.put] at this
          · rintro c w0 ⟨l0, _, hq0⟩
            exact hq0.elim
          · rintro ⟨a0, w0, l0, _, hq0⟩
            exact hq0.elim
        · exact hq0.elim
      · rename_i hwn
        rw [hwant, if_neg hwn] at hwp
        exact hnext _ _ hwp
    | false =>
      -- one of the spine: it is the next of it
      rw [hb] at hqi
      obtain ⟨k, hk⟩ : ∃ k, (spineIx qs)[k]? = some i := by
        have := mem_spineIx.2 hqi
        obtain ⟨k, hk, he⟩ := List.getElem_of_mem this
        exact ⟨k, by rw [List.getElem?_eq_getElem hk, he]⟩
      have hkj : k = j := by
        have h1 : ¬ k < j := fun hlt => by
          have := (hspD k i hk).2 hlt
          rw [hDi] at this; cases this
        by_cases h2 : k = 0
        · omega
        · obtain ⟨k', rfl⟩ : ∃ k', k = k' + 1 := ⟨k - 1, by omega⟩
          have hk' : k' < (spineIx qs).length := by
            have := (List.getElem?_eq_some_iff.1 hk).1
            omega
          have hg := chain_get _ k' _ _ hchain (List.getElem?_eq_getElem hk') hk
          unfold edgeAt at hg
          rw [ho'] at hg
          obtain ⟨e, he, hbd, hej⟩ := edgeOn_mem hg
          have hDp := hpre e he hbd
          rw [hej] at hDp
          have := (hspD k' _ (List.getElem?_eq_getElem hk')).1 hDp
          omega
      subst hkj
      have hdrop : (spineOf qs os).drop k = o :: (spineOf qs os).drop (k + 1) := by
        have hks : k < (spineOf qs os).length := by
          rw [spine_get hq, List.length_map]
          exact (List.getElem?_eq_some_iff.1 hk).1
        rw [List.drop_eq_getElem_cons hks]
        congr 1
        have : (spineOf qs os)[k]? = some o := by
          rw [spine_get hq, List.getElem?_map, hk]
          simp [List.getD, ho']
        rw [List.getElem?_eq_getElem hks] at this
        exact Option.some.inj this
      rw [hdrop] at hph
      have hsame : ∀ (t : Nat), t ∈ o.looksAt os.toArray → b.tmps[t]? = a.tmps[t]? := by
        intro t ht
        rcases hrel t with ⟨q, h1, h2, h3⟩ | h1
        · have hqlt := hspsee hqi t ht q h1 h2
          have hs := hsee t ht
          unfold seesOk at hs
          rw [h1] at hs
          simp only at hs
          rw [show Nat.blt q i = true from Nat.ble_eq_true_of_le hqlt] at hs
          obtain ⟨e, he, hbd, hej⟩ := edgeOn_mem hs
          have := hpre e he hbd
          rw [hej, h3] at this; cases this
        · exact h1.symm
      have heval : ∀ x ∈ o.op.operands, b.eval x = a.eval x := by
        intro x hx
        cases x with
        | tmp t =>
          have ht : t ∈ o.looksAt os.toArray := by
            unfold Oper.looksAt
            refine List.mem_append_left _ (List.mem_filterMap.2 ⟨.tmp t, by simpa using hx, rfl⟩)
          simp only [Act.eval, Array.getD_eq_getD_getElem?, hsame t ht]
        | _ => rfl
      have hexec := execOp_congr o hnsel heval
      have hwant : Region.wanted o (yielded os.toArray b.tmps) = Region.wanted o (yielded os.toArray a.tmps) := by
        unfold Region.wanted
        cases hg : o.guard with
        | none => rfl
        | some jw =>
          obtain ⟨j', want⟩ := jw
          simp only
          congr 1
          unfold yielded
          cases hdj : (os.toArray[j']?).bind (·.dst) with
          | none => rfl
          | some t =>
            have ht : t ∈ o.looksAt os.toArray := by
              unfold Oper.looksAt
              refine List.mem_append_right _ ?_
              simp only [hg, hdj]
              simp
            simp only [Option.bind_some, hsame t ht]
      -- all that the next state wants but for its phase
      have hnext : ∀ df v' w', ((∃ q, qs[q]? = some true ∧ (D q || q == i) = false) → HB w') → Ph P n os.toArray HB Q (soft - (k + 1)) ((spineOf qs os).drop (k + 1)) ({ b with defers := df }.put o.dst v') w' → S (fun j => D j || j == i) ({ a with defers := df }.put o.dst v') w' := by
        intro df v' w' hhb' hph'
        refine ⟨k + 1, { b with defers := df }.put o.dst v', fun k' i' hk' => ?_, ?_, ?_, ?_, fun t => ?_, fun q oq dq hq1 hq2 hq3 => ?_, fun t u htu => ?_, hcl', hhb', hph'⟩
        · simp only [Bool.or_eq_true, beq_iff_eq]
          constructor
          · rintro (h | h)
            · have := (hspD k' i' hk').1 h; omega
            · subst h
              have := spineIx_inj hk' hk
              omega
          · intro h
            by_cases hkk : k' = k
            · subst hkk
              rw [hk] at hk'
              exact .inr (Option.some.inj hk').symm
            · exact .inl ((hspD k' i' hk').2 (by omega))
        · cases o.dst <;> simp [Act.put, hsa]
        · cases o.dst <;> simp [Act.put, hsb]
        · cases o.dst <;> simp [Act.put]
        · cases hd : o.dst with
          | none =>
            simp only [Act.put]
            rcases hrel t with ⟨q, h1, h2, h3⟩ | h1
            · refine .inl ⟨q, h1, h2, ?_⟩
              have hqe : q ≠ i := fun e => by rw [e, hqi] at h2; cases h2
              simp [h3, hqe]
            · exact .inr h1
          | some d =>
            simp only [Act.put]
            by_cases htd : d = t
            · subst htd
              right
              have hdn := (hd1 d hd).1
              simp [hsa, hsb, hdn]
            · rw [Array.getElem?_setIfInBounds_ne htd, Array.getElem?_setIfInBounds_ne htd]
              rcases hrel t with ⟨q, h1, h2, h3⟩ | h1
              · refine .inl ⟨q, h1, h2, ?_⟩
                have hqe : q ≠ i := fun e => by rw [e, hqi] at h2; cases h2
                simp [h3, hqe]
              · exact .inr h1
        · cases hd : o.dst with
          | none => exact hbq q oq dq hq1 hq2 hq3
          | some d =>
            simp only [Act.put]
            have hne : d ≠ dq := by
              rintro rfl
              have h1 := (hd1 d hd).2
              have h2 := hu q oq d hq2 hq3
              rw [h1] at h2
              simp only [Option.some.injEq] at h2
              rw [← h2, hqi] at hq1; cases hq1
            rw [Array.getElem?_setIfInBounds_ne hne]
            exact hbq q oq dq hq1 hq2 hq3
        · cases hd : o.dst with
          | none =>
            simp only [Act.put]
            refine hval t u ?_
            rw [← htu]
            show (match writer os t with
                | some j => if D j = true then (if qs[j]? = some true then vals[j]? else none) else look l t
                | none => look l t) = (match writer os t with
                | some j => if (D j || j == i) = true then (if qs[j]? = some true then vals[j]? else none) else look l t
                | none => look l t)
            cases hwt : writer os t with
            | none => rfl
            | some j' =>
              have hji : j' ≠ i := by
                rintro rfl
                obtain ⟨x, hx, hxd⟩ := hwr t j' hwt
                rw [ho'] at hx
                simp only [Option.some.injEq] at hx
                subst hx
                rw [hd] at hxd
                cases hxd
              have : (j' == i) = false := by simpa using hji
              simp [this]
          | some d =>
            simp only [Act.put]
            have htu' : (match writer os t with
                | some j => if (D j || j == i) = true then (if qs[j]? = some true then vals[j]? else none) else look l t
                | none => look l t) = some u := htu
            by_cases htd : d = t
            · subst htd
              rw [(hd1 d hd).2] at htu'
              simp [hqi] at htu'
            · rw [Array.getElem?_setIfInBounds_ne htd]
              refine hval t u ?_
              rw [← htu']
              show (match writer os t with
                | some j => if D j = true then (if qs[j]? = some true then vals[j]? else none) else look l t
                | none => look l t) = _
              cases hwt : writer os t with
              | none => rfl
              | some j' =>
                have hji : j' ≠ i := by
                  rintro rfl
                  obtain ⟨x, hx, hxd⟩ := hwr t j' hwt
                  rw [ho'] at hx
                  simp only [Option.some.injEq] at hx
                  subst hx
                  rw [hd] at hxd
                  simp only [Option.some.injEq] at hxd
                  exact htd hxd
                have : (j' == i) = false := by simpa using hji
                simp [this]
      -- where the next one is hard, all quiet ones are done
      have hdone : soft ≤ k → ¬ ∃ q, qs[q]? = some true ∧ D q = false := by
        rintro hsk ⟨q, hq1, hq2⟩
        have hks : soft < (spineIx qs).length := Nat.lt_of_le_of_lt hsk (List.getElem?_eq_some_iff.1 hk).1
        rw [List.getElem?_eq_getElem hks] at hhard
        simp only at hhard
        rw [List.all_eq_true] at hhard
        have hqlt : q < qs.length := (List.getElem?_eq_some_iff.1 hq1).1
        have h1 := hhard q (by simpa using hqlt)
        rw [hq1] at h1
        simp only [List.any_eq_true] at h1
        obtain ⟨q', hq', he⟩ := h1
        have he' := Nat.eq_of_beq_eq_true he
        subst he'
        have hall2 : ∀ (o : Oper), os[(spineIx qs)[soft]]? = some o → ∀ e ∈ o.after, Region.binds .any e = true → D e.on = true := by
          intro o2 ho2 e he2 hbd
          by_cases hsk2 : soft = k
          · subst hsk2
            rw [List.getElem?_eq_getElem hks] at hk
            simp only [Option.some.injEq] at hk
            rw [hk, ho'] at ho2
            simp only [Option.some.injEq] at ho2
            subst ho2
            exact hpre e he2 hbd
          · exact hcl _ o2 ho2 ((hspD soft _ (List.getElem?_eq_getElem hks)).2 (by omega)) e he2 hbd
        have := aheadOf_done hcl hall2 _ q hq'
        rw [hq2] at this; cases this
      have hdone' : soft ≤ k → ¬ ∃ q, qs[q]? = some true ∧ (D q || q == i) = false := by
        rintro hsk ⟨q, hq1, hq2⟩
        simp only [Bool.or_eq_false_iff] at hq2
        exact hdone hsk ⟨q, hq1, hq2.1⟩
      -- the phases
      have hhardstep : soft ≤ k → wpList P os.toArray (On n Q) (o :: (spineOf qs os).drop (k + 1)) b w → (if Region.wanted o (yielded os.toArray a.tmps) then o.wp P a w (fun a' w' => S (fun j => D j || j == i) a' w') (On n Q) ∨ (o.asks P a w ∧ LetsOut (On n Q)) else S (fun j => D j || j == i) (a.put o.dst undef) w) := by
        intro hsk hwp
        unfold wpList at hwp
        rw [hwant] at hwp
        split at hwp
        · rename_i hwn
          rw [if_pos hwn]
          rcases hwp with hwp | ⟨_, hlo⟩
          · refine .inl (wp_transfer2 hexec hdf.symm (fun df v' w' hk2 => hnext df v' w' (fun hx => absurd hx (hdone' hsk)) (.inr ⟨by omega, hk2⟩)) (fun c w' => (hnp.on (a := b) (w := w')).1 c) (hnp.on (a := b) (w := w)).2 hwp)
          · exact absurd hlo (hnp.on (a := b) (w := w)).2
        · rename_i hwn
          rw [if_neg hwn]
          have := hnext b.defers undef w (fun hx => absurd hx (hdone' hsk)) (.inr ⟨by omega, hwp⟩)
          rw [← hdf] at this
          exact this
      rcases hph with ⟨l2, hl2, hsw⟩ | ⟨hk0, hwp⟩
      · cases hsf : soft - k with
        | zero =>
          rw [hsf] at hsw
          exact hhardstep (by omega) (hsw w rfl b hl2)
        | succ k2 =>
          rw [hsf] at hsw
          have hwp : wpList P os.toArray (On n (Sp1 (fun l' w' => HB w' ∧ SpW P n os.toArray HB Q k2 ((spineOf qs os).drop (k + 1)) l' (fun x => x = w')))) [o] b w := hsw w rfl b hl2
          have hk2 : soft - (k + 1) = k2 := by omega
          have huse : ∀ v' w', On n (Sp1 (fun l' w' => HB w' ∧ SpW P n os.toArray HB Q k2 ((spineOf qs os).drop (k + 1)) l' (fun x => x = w'))) .normal (b.put o.dst v') w' → S (fun j => D j || j == i) (a.put o.dst v') w' := by
            rintro v' w' ⟨l3, hl3, hHB3, hsw3⟩
            have := hnext b.defers v' w' (fun _ => hHB3) (.inl ⟨l3, hl3, by rw [hk2]; exact hsw3⟩)
            rw [← hdf] at this
            exact this
          unfold wpList at hwp
          rw [hwant] at hwp
          split at hwp
          · rename_i hwn
            rw [if_pos hwn]
            rcases hwp with hwp | ⟨_, a0, w0, l0, _, hq0⟩
            · refine .inl (wp_transfer hexec (fun v' w' hk2 => huse v' w' hk2) ?_ ?_ ?_ hwp)
              · rintro d0 v0 w0 ⟨l0, hl0, _⟩
                have := hl0.nod
                cases hd : o.dst <;> rw [hd] at this <;> simp [Act.put] at this
              · rintro c w0 ⟨l0, _, hq0⟩
                exact hq0.elim
              · rintro ⟨a0, w0, l0, _, hq0⟩
                exact hq0.elim
            · exact hq0.elim
          · rename_i hwn
            rw [if_neg hwn]
            exact huse _ _ hwp
      · exact hhardstep (by omega) hwp
  · rintro D a w hD ⟨j, b, hspD, hsa, hsb, hdf, hrel, hbq, hval, hcl, hhb, hph⟩
    have hDall : ∀ i, i < os.length → D i = true := fun i hi => hD i (by simpa using hi)
    have hab : ∀ (t : Nat), a.tmps[t]? = b.tmps[t]? := by
      intro t
      rcases hrel t with ⟨q, h1, h2, h3⟩ | h1
      · have hqlt : q < qs.length := (List.getElem?_eq_some_iff.1 h2).1
        rw [hDall q (by omega)] at h3; cases h3
      · exact h1
    have hj : (spineOf qs os).drop j = [] := by
      apply List.drop_eq_nil_of_le
      rw [spine_get hq, List.length_map]
      rcases Nat.lt_or_ge j (spineIx qs).length with h1 | h1
      · have hi := (spineIx qs)[j]'h1
        have h2 := mem_spineIx.1 (List.getElem_mem h1)
        have hlt : (spineIx qs)[j] < qs.length := (List.getElem?_eq_some_iff.1 h2).1
        have := (hspD j _ (List.getElem?_eq_getElem h1)).1 (hDall _ (by omega))
        omega
      · exact h1
    rw [hj] at hph
    have hagr : ∀ l2, Agr n l2 b → Agr n l2 a := fun l2 h2 => ⟨hsa, by rw [hdf]; exact h2.nod, fun t v hv => by rw [hab t]; exact h2.val t v hv⟩
    rcases hph with ⟨l2, hl2, hsw⟩ | ⟨_, hwp⟩
    · refine ⟨l2, hagr l2 hl2, ?_⟩
      cases hs : soft - j <;> rw [hs] at hsw <;> exact hsw w rfl
    · obtain ⟨l2, hl2, hq2⟩ := hwp
      exact ⟨l2, hagr l2 hl2, hq2⟩
  · intro i o ho e he hb
    obtain ⟨_, _, _, _, _, h3, _⟩ := hpart i o (by simpa using ho)
    exact h3 e he hb
  · have hf : ∀ j, (Array.replicate os.toArray.size false).getD j false = false := by
      intro j
      simp only [Array.getD_eq_getD_getElem?, Array.getElem?_replicate]
      split <;> rfl
    let b0 : Act := ⟨Array.ofFn (n := n) (fun t => match writer os t.val with
      | some q => if qs[q]? = some true then (vals[q]?).getD undef else a.tmps.getD t.val undef
      | none => a.tmps.getD t.val undef), a.defers⟩
    have hb0 : ∀ (t : Nat), t < n → b0.tmps[t]? = some (match writer os t with
      | some q => if qs[q]? = some true then (vals[q]?).getD undef else a.tmps.getD t undef
      | none => a.tmps.getD t undef) := by
      intro t ht
      simp [b0, ht]
    have hat : ∀ (t : Nat), t < n → a.tmps[t]? = some (a.tmps.getD t undef) := by
      intro t ht
      rw [Array.getD_eq_getD_getElem?, Array.getElem?_eq_getElem (by rw [ha.size]; exact ht)]
      rfl
    have hvq : ∀ (q : Nat), qs[q]? = some true → ∃ v, vals[q]? = some v := by
      intro q hq1
      have : q < qs.length := (List.getElem?_eq_some_iff.1 hq1).1
      exact ⟨vals[q]'(by omega), List.getElem?_eq_getElem _⟩
    refine ⟨0, b0, fun k i hk => ⟨fun h => absurd ((hf i).symm.trans h) (by simp), fun h => absurd h (by omega)⟩, ha.size, by simp [b0], rfl, fun t => ?_, fun q o d hq1 hq2 hq3 => ?_, fun t u htu => ?_, fun j o _ hDj => absurd ((hf j).symm.trans hDj) (by simp), fun _ => hHB _ (hH w hw), ?_⟩
    · by_cases htn : t < n
      · cases hwt : writer os t with
        | none => right; rw [hb0 t htn, hwt, hat t htn]
        | some q =>
          by_cases hqq : qs[q]? = some true
          · exact .inl ⟨q, rfl, hqq, hf q⟩
          · right; rw [hb0 t htn, hwt, hat t htn]; simp [hqq]
      · right; rw [Array.getElem?_eq_none (by rw [ha.size]; omega), Array.getElem?_eq_none (by simp [b0]; omega)]
    · obtain ⟨hdn, hwd⟩ := (hpart q o hq2).1 d hq3
      obtain ⟨v, hv⟩ := hvq q hq1
      rw [hb0 d hdn, hwd]
      simp [hq1, hv]
    · refine ha.val t u ?_
      rw [← htu]
      show look l t = (match writer os t with
        | some j => if (Array.replicate os.toArray.size false).getD j false = true then (if qs[j]? = some true then vals[j]? else none) else look l t
        | none => look l t)
      cases writer os t with
      | none => rfl
      | some j => simp only [hf]; rfl
    · refine .inl ⟨_, ?_, SpW.sub _ _ hsp (fun x hx => hx ▸ hH w hw)⟩
      refine ⟨by simp [b0], ha.nod, fun t u htu => ?_⟩
      have := hlook t os.length (Nat.le_refl _)
      rw [this] at htu
      cases hwt : writer os t with
      | none =>
        rw [hwt] at htu
        have htn := look_some_lt ha htu
        rw [hb0 t htn, hwt]
        have := ha.val t u htu
        rw [hat t htn] at this
        exact this
      | some q =>
        rw [hwt] at htu
        simp only at htu
        obtain ⟨x, hx, hxd⟩ := hwr t q hwt
        have htn := ((hpart q x hx).1 t hxd).1
        have hqlt := (List.getElem?_eq_some_iff.1 hx).1
        rw [hb0 t htn, hwt]
        by_cases hqq : qs[q]? = some true
        · rw [if_pos ⟨hqlt, hqq⟩] at htu
          simp [hqq, htu]
        · rw [if_neg (fun h => hqq h.2)] at htu
          have := ha.val t u htu
          rw [hat t htn] at this
          show some (if qs[q]? = some true then (vals[q]?).getD undef else a.tmps.getD t undef) = some u
          rw [if_neg hqq]
          exact this
end Go.Proofs.Ytjmmikdbhhomiaa.Mq
