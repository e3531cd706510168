/-
  A REGION WHOSE ORDER IS DRAWN, IN STAGES: operations that write or call stand in a forced order (but that the first may be one of several); between them quiet ones, each of which comes behind its stage's operation, and whose value is settled as long as that stage's HB holds.
-/
import Derived.Test.YtjmmikdbhhomiaaDrawT
namespace Go.Proofs.Ytjmmikdbhhomiaa.Mq
open Go Go.RowKit

/-- the chunks alone -/
def Ch (cs : List Chunk) (w : World) : Prop := ∀ c ∈ cs, c.pred w
theorem SH.ch {b : World} {S : List Nat} {cs : List Chunk} {w : World} (h : SH b S cs w) : Ch cs w := h.all
theorem Ch.rem {cs cs' : List Chunk} {w : World} (h : Ch cs w) {c : Chunk} (hc : Rem cs c cs') : Ch cs' w := by
  obtain ⟨l, r, rfl, rfl⟩ := hc.split
  exact fun d hd => h d (by rcases List.mem_append.1 hd with hd | hd <;> simp [hd])
theorem Ch.blk_cell {cs : List Chunk} {w : World} (h : Ch cs w) {g : Nat} {xs : List Value} {t : TypeId} (hc : Has cs (blk g xs t)) {o : Nat} {v : Value} (hv : xs[o]? = some v) :
    w.cell? ⟨g, o, none⟩ = some v := by
  have h1 : w.heap[g]? = some (.cells xs.toArray t (0, 0)) := h _ hc.mem
  rw [cell_of_row w g o xs.toArray t (0, 0) h1]
  simpa using hv
theorem Ch.blk_at {cs : List Chunk} {w : World} (h : Ch cs w) {g o sz : Nat} {xs vs : List Value} {t : TypeId} (hc : Has cs (blk g xs t)) (hv : (xs.drop o).take sz = vs) (j : Nat) (u : Value) (hu : vs[j]? = some u) : w.cell? ((⟨g, o, none⟩ : Addr).add j) = some u := by
  rw [Addr.add_lit]
  refine h.blk_cell hc ?_
  rw [← hv, List.getElem?_take] at hu
  split at hu
  · simpa using hu
  · cases hu
def QuP (P : Program) (n : Nat) (ops : Array Oper) (HB : World → Prop) (K : Fr → Prop) : List Oper → Fr → Prop
  | [], l => K l
  | o :: rest, l => ∃ d v, o.dst = some d ∧ (∀ w, HB w → RW P n ops (Jn ((d, v) :: l) (fun x => x = w)) [o] l (fun x => x = w)) ∧ QuP P n ops HB K rest ((d, v) :: l)
theorem QuP.nil {P : Program} {n : Nat} {ops : Array Oper} {HB : World → Prop} {K : Fr → Prop} {l : Fr} (h : K l) : QuP P n ops HB K [] l := h
theorem QuP.cons {P : Program} {n : Nat} {ops : Array Oper} {HB : World → Prop} {K : Fr → Prop} {l : Fr} {o : Oper} {rest : List Oper} {d : Nat} {v : Value} (hd : o.dst = some d)
    (h : ∀ w, HB w → RW P n ops (Jn ((d, v) :: l) (fun x => x = w)) [o] l (fun x => x = w)) (hr : QuP P n ops HB K rest ((d, v) :: l)) : QuP P n ops HB K (o :: rest) l := ⟨d, v, hd, h, hr⟩
theorem QuP.casesB {P : Program} {n : Nat} {ops : Array Oper} {HB : World → Prop} {K : Fr → Prop} {l : Fr} {os : List Oper} {c : Bool} (t : Nat) (_ht : look l t = some (.bool c)) (hT : c = true → QuP P n ops HB K os l) (hF : c = false → QuP P n ops HB K os l) : QuP P n ops HB K os l := by
  cases c
  · exact hF rfl
  · exact hT rfl
theorem QuP.mono {P : Program} {n : Nat} {ops : Array Oper} {HB : World → Prop} {K K' : Fr → Prop} (hk : ∀ l, K l → K' l) : ∀ (os : List Oper) (l : Fr), QuP P n ops HB K os l → QuP P n ops HB K' os l
  | [], _, h => hk _ h
  | _ :: os, _, ⟨d, v, hd, h, hr⟩ => ⟨d, v, hd, h, QuP.mono hk os _ hr⟩
/- plans: lists of stages (the operation, whether it is hard, the quiet ones behind it) -/
def flatSt : List (Nat × Bool × List Nat) → List Nat
  | [] => []
  | s :: r => s.1 :: (s.2.2 ++ flatSt r)
def headSt (i : Nat) : List (Nat × Bool × List Nat) → Bool
  | s :: _ => Nat.beq s.1 i
  | [] => false
def headsOf : List (List (Nat × Bool × List Nat)) → List (Nat × Bool × List Nat)
  | [] => []
  | [] :: r => headsOf r
  | (s :: _) :: r => match r.any (headSt s.1) with
    | true => headsOf r
    | false => s :: headsOf r
def tailsOf (i : Nat) : List (List (Nat × Bool × List Nat)) → List (List (Nat × Bool × List Nat))
  | [] => []
  | [] :: r => tailsOf i r
  | (s :: p) :: r => match Nat.beq s.1 i with
    | true => p :: tailsOf i r
    | false => tailsOf i r
def UW (P : Program) (n : Nat) (os : List Oper) (Q : Post) : Nat → List (List (Nat × Bool × List Nat)) → (World → Prop) → Fr → (World → Prop) → Prop
  | 0, _, _, l, H => EX Q .normal l H
  | k + 1, rem, HBa, l, H => ∀ s ∈ headsOf rem, RW P n os.toArray (Sp1 (fun l' w' => (s.2.1 = true ∨ HBa w') ∧ ∃ HB : World → Prop, HB w' ∧ QuP P n os.toArray HB (fun lq => UW P n os Q k (tailsOf s.1 rem) (fun x => (s.2.1 = true ∨ HBa x) ∧ HB x) lq (fun x => x = w')) (s.2.2.map (fun q => os.getD q default)) l')) [os.getD s.1 default] l H
theorem UW.sub {P : Program} {n : Nat} {os : List Oper} {Q : Post} : ∀ (k : Nat) {rem : List (List (Nat × Bool × List Nat))} {HBa : World → Prop} {l : Fr} {H H' : World → Prop}, UW P n os Q k rem HBa l H → (∀ w, H' w → H w) → UW P n os Q k rem HBa l H'
  | 0, _, _, _, _, _, h, hs => fun w hw => h w (hs w hw)
  | _ + 1, _, _, _, _, _, h, hs => fun s hm => RW.sub (h s hm) (Sub.refl _) hs
theorem UW.nil {P : Program} {n : Nat} {os : List Oper} {Q : Post} {rem : List (List (Nat × Bool × List Nat))} {HBa : World → Prop} {l : Fr} {H : World → Prop} (h : EX Q .normal l H) : UW P n os Q 0 rem HBa l H := h
theorem UW.step {P : Program} {n : Nat} {os : List Oper} {Q : Post} {k : Nat} {rem : List (List (Nat × Bool × List Nat))} {HBa : World → Prop} {l : Fr} {H : World → Prop} (c : List (Nat × Bool × List Nat)) (hc : headsOf rem = c)
    (h : ∀ s ∈ c, RW P n os.toArray (Sp1 (fun l' w' => (s.2.1 = true ∨ HBa w') ∧ ∃ HB : World → Prop, HB w' ∧ QuP P n os.toArray HB (fun lq => UW P n os Q k (tailsOf s.1 rem) (fun x => (s.2.1 = true ∨ HBa x) ∧ HB x) lq (fun x => x = w')) (s.2.2.map (fun q => os.getD q default)) l')) [os.getD s.1 default] l H) :
    UW P n os Q (k + 1) rem HBa l H := by subst hc; exact h
theorem RW.st {P : Program} {n : Nat} {os : List Oper} {Q : Post} {HBa : World → Prop} {l : Fr} {H : World → Prop} {s : Nat × Bool × List Nat} {k : Nat} {rem : List (List (Nat × Bool × List Nat))} (HB : World → Prop)
    (h1 : ∀ w, H w → (s.2.1 = true ∨ HBa w)) (h2 : ∀ w, H w → HB w) (h : QuP P n os.toArray HB (fun lq => UW P n os Q k (tailsOf s.1 rem) (fun x => (s.2.1 = true ∨ HBa x) ∧ HB x) lq H) (s.2.2.map (fun q => os.getD q default)) l) :
    RW P n os.toArray (Sp1 (fun l' w' => (s.2.1 = true ∨ HBa w') ∧ ∃ HB : World → Prop, HB w' ∧ QuP P n os.toArray HB (fun lq => UW P n os Q k (tailsOf s.1 rem) (fun x => (s.2.1 = true ∨ HBa x) ∧ HB x) lq (fun x => x = w')) (s.2.2.map (fun q => os.getD q default)) l')) [] l H :=
  RW.nil fun w hw => ⟨h1 w hw, HB, h2 w hw, QuP.mono (fun _ h => UW.sub k h (fun _ e => e ▸ hw)) _ _ h⟩

def bef (ord : List Nat) (j i : Nat) : Bool := (ord.takeWhile (fun x => !Nat.beq x i)).any (Nat.beq j)
def aheadB (os : List Oper) (i j : Nat) : Bool := (aheadOf os i i).any (Nat.beq j)
def chkBase (n : Nat) (os : List Oper) (i : Nat) (o : Oper) : Bool :=
  (match o.dst with
    | some d => Nat.blt d n && (match writer os d with | some j => Nat.beq j i | none => false)
    | none => true) &&
  (o.looksAt os.toArray).all (seesOk os i o) &&
  (o.after.all fun e => !Region.binds .any e || Nat.blt e.on i) &&
  (match o.op with | .select .. => false | _ => true)
def chkLook (os : List Oper) (dn : List Nat) (i : Nat) : Bool := match os[i]? with
  | some o => (o.looksAt os.toArray).all (fun t => match writer os t with
    | none => true
    | some j => match Nat.blt j i with
      | true => bef dn j i
      | false => !bef dn j i)
  | none => false
def chkW (os : List Oper) (p0 : List Nat) : Nat → List (Nat × Bool × List Nat) → List (List (Nat × Bool × List Nat)) → Bool
  | 0, pre, _ => (List.range os.length).all fun i => (p0 ++ flatSt pre).any (Nat.beq i)
  | k + 1, pre, rem =>
    (match headsOf rem with | [] => false | _ => true) && ((List.range os.length).all fun i => (p0 ++ flatSt pre).any (Nat.beq i) || rem.any (headSt i) || (List.range os.length).any (fun m => !(p0 ++ flatSt pre).any (Nat.beq m) && aheadB os i m)) &&
    (headsOf rem).all fun s => nodupB (p0 ++ flatSt (pre ++ [s])) && (s.1 :: s.2.2).all (chkLook os (p0 ++ flatSt (pre ++ [s]))) &&
      (!s.2.1 || (p0 ++ flatSt pre).all (fun q => pre.any (fun r => Nat.beq r.1 q) || aheadB os s.1 q)) && chkW os p0 k (pre ++ [s]) (tailsOf s.1 rem)
def chkU (n : Nat) (p0 : List Nat) (k : Nat) (pls : List (List (Nat × Bool × List Nat))) (os : List Oper) : Bool :=
  ((List.range os.length).all fun i => match os[i]? with
    | some o => chkBase n os i o
    | none => true) &&
  nodupB p0 && p0.all (chkLook os p0) && chkW os p0 k [] pls

theorem any_beq {l : List Nat} {j : Nat} : l.any (Nat.beq j) = true ↔ j ∈ l := by
  rw [List.any_eq_true]
  constructor
  · rintro ⟨x, hx, he⟩; rw [Nat.eq_of_beq_eq_true he]; exact hx
  · intro h; exact ⟨j, h, by simp⟩
theorem bef_mem {dn : List Nat} {j i : Nat} (h : bef dn j i = true) : j ∈ dn := by
  have := any_beq.1 h
  exact List.Sublist.mem this (List.takeWhile_sublist _)
theorem bef_app {dn : List Nat} {j i : Nat} (x : List Nat) (h : i ∈ dn) : bef (dn ++ x) j i = bef dn j i := by
  unfold bef
  congr 1
  induction dn with
  | nil => cases h
  | cons y dn ih =>
    simp only [List.cons_append, List.takeWhile_cons]
    cases hb : Nat.beq y i with
    | true => simp
    | false =>
      have : i ∈ dn := by
        rcases List.mem_cons.1 h with rfl | h
        · simp at hb
        · exact h
      simp [ih this]
theorem bef_self {dn : List Nat} {j i : Nat} (x : List Nat) (h : i ∉ dn) : bef (dn ++ i :: x) j i = true ↔ j ∈ dn := by
  unfold bef
  rw [any_beq]
  have : (dn ++ i :: x).takeWhile (fun x => !Nat.beq x i) = dn := by
    induction dn with
    | nil => simp
    | cons y dn ih =>
      have hy : Nat.beq y i = false := by
        cases hb : Nat.beq y i with
        | false => rfl
        | true => exact absurd (Nat.eq_of_beq_eq_true hb) (fun e => h (e ▸ List.mem_cons_self))
      simp only [List.cons_append, List.takeWhile_cons, hy, Bool.not_false, if_true]
      rw [ih (fun hm => h (List.mem_cons_of_mem _ hm))]
  rw [this]
theorem nodupB_nodup : ∀ (l : List Nat), nodupB l = true → l.Nodup
  | [], _ => List.nodup_nil
  | x :: l, h => by
    simp only [nodupB, Bool.and_eq_true, Bool.not_eq_true', List.any_eq_false] at h
    exact List.nodup_cons.2 ⟨fun hm => h.1 x hm (by simp), nodupB_nodup l h.2⟩
theorem flatSt_app (x y : List (Nat × Bool × List Nat)) : flatSt (x ++ y) = flatSt x ++ flatSt y := by
  induction x with
  | nil => rfl
  | cons s x ih => simp [flatSt, ih]
theorem mem_flatSt {pl : List (Nat × Bool × List Nat)} {i : Nat} : i ∈ flatSt pl ↔ ∃ s ∈ pl, i = s.1 ∨ i ∈ s.2.2 := by
  induction pl with
  | nil => simp [flatSt]
  | cons s pl ih => simp [flatSt, ih, or_assoc]
theorem ahead_done {os : List Oper} {D : Nat → Bool} {i j : Nat} (hcl : ∀ (j : Nat) (o : Oper), os[j]? = some o → D j = true → ∀ e ∈ o.after, Region.binds .any e = true → D e.on = true)
    (hi : ∀ (o : Oper), os[i]? = some o → ∀ e ∈ o.after, Region.binds .any e = true → D e.on = true) (h : aheadB os i j = true) : D j = true :=
  aheadOf_done hcl hi _ j (any_beq.1 h)

def I2 (os : List Oper) (a0 : Act) (dn : List Nat) (b : Act) : Prop := ∀ t, (∀ i, writer os t = some i → i ∉ dn) → b.tmps[t]? = a0.tmps[t]?
def I3 (P : Program) (n : Nat) (os : List Oper) (a0 : Act) (D : Nat → Bool) (HBa : World → Prop) (dn : List Nat) (b : Act) : Prop :=
  ∀ q ∈ dn, D q = false → ∃ (o : Oper) (f : Fr) (bq : Act) (d : Nat) (v : Value), os[q]? = some o ∧ o.dst = some d ∧ Agr n f bq ∧ b.tmps[d]? = some v ∧
    (∀ w, HBa w → RW P n os.toArray (Jn ((d, v) :: f) (fun x => x = w)) [o] f (fun x => x = w)) ∧
    ∀ t ∈ o.looksAt os.toArray, bq.tmps[t]? = (match writer os t with
      | some i => if bef dn i q = true then b.tmps[t]? else a0.tmps[t]?
      | none => a0.tmps[t]?)
theorem quRun {P : Program} {n : Nat} {os : List Oper} {a0 : Act} {D : Nat → Bool} {HBa HB : World → Prop} {K : Fr → Prop} (hw : ∀ (i : Nat) (o : Oper) (d : Nat), os[i]? = some o → o.dst = some d → d < n ∧ writer os d = some i) (hHB : ∀ w, HBa w → HB w) :
    ∀ (qs dn : List Nat) (b : Act) (f : Fr), (dn ++ qs).Nodup → (∀ q ∈ qs, q < os.length) → Agr n f b → I2 os a0 dn b → I3 P n os a0 D HBa dn b → QuP P n os.toArray HB K (qs.map (fun q => os.getD q default)) f →
    ∃ b' lq, Agr n lq b' ∧ K lq ∧ I2 os a0 (dn ++ qs) b' ∧ I3 P n os a0 D HBa (dn ++ qs) b' ∧ ∀ t, (∀ i, writer os t = some i → i ∉ qs) → b'.tmps[t]? = b.tmps[t]? := by
  intro qs
  induction qs with
  | nil => intro dn b f _ _ hag h2 h3 hq; exact ⟨b, f, hag, hq, by simpa using h2, by simpa using h3, fun _ _ => rfl⟩
  | cons q qs ih =>
    intro dn b f hnd hlt hag h2 h3 hq
    obtain ⟨d, v, hd, hrw, hr⟩ := hq
    have hql := hlt q (by simp)
    have ho : os[q]? = some (os.getD q default) := by simp [List.getD, List.getElem?_eq_getElem hql]
    obtain ⟨hdn, hwd⟩ := hw q _ d ho hd
    have hqn : q ∉ dn := fun hm => by
      rw [List.nodup_append] at hnd
      exact hnd.2.2 q hm q (by simp) rfl
    let b1 : Act := b.put (some d) v
    have hb1 : ∀ t, t ≠ d → b1.tmps[t]? = b.tmps[t]? := fun t ht => by
      show (b.tmps.setIfInBounds d v)[t]? = _
      rw [Array.getElem?_setIfInBounds_ne (fun e => ht e.symm)]
    have hb1d : b1.tmps[d]? = some v := by
      show (b.tmps.setIfInBounds d v)[d]? = _
      simp [hag.size, hdn]
    have hne : ∀ t i, writer os t = some i → i ≠ q → t ≠ d := fun t i h1 h3 e => by
      subst e; rw [hwd] at h1; exact h3 (Option.some.inj h1).symm
    have hag1 : Agr n ((d, v) :: f) b1 := by
      refine ⟨by simp [b1, Act.put, hag.size], by simpa [b1, Act.put] using hag.nod, fun t u hu => ?_⟩
      simp only [look] at hu
      cases hbt : Nat.beq d t with
      | true =>
        rw [hbt] at hu
        have he := Nat.eq_of_beq_eq_true hbt
        subst he
        rw [hb1d]; exact hu
      | false =>
        rw [hbt] at hu
        rw [hb1 t (fun e => Nat.ne_of_beq_eq_false hbt e.symm)]
        exact hag.val t u hu
    have h2' : I2 os a0 (dn ++ [q]) b1 := by
      intro t ht
      have htd : t ≠ d := fun e => by subst e; exact ht q hwd (by simp)
      rw [hb1 t htd]
      exact h2 t fun i hi hm => ht i hi (by simp [hm])
    have h3' : I3 P n os a0 D HBa (dn ++ [q]) b1 := by
      intro q' hq' hD
      rcases List.mem_append.1 hq' with hm | hm
      · obtain ⟨o, f0, bq, d0, v0, e1, e2, e3, e4, e5, e6⟩ := h3 q' hm hD
        have hq'q : q' ≠ q := fun e => hqn (e ▸ hm)
        refine ⟨o, f0, bq, d0, v0, e1, e2, e3, ?_, e5, fun t ht => ?_⟩
        · rw [hb1 d0 (hne d0 q' (hw q' o d0 e1 e2).2 hq'q)]; exact e4
        · rw [e6 t ht]
          cases hwt : writer os t with
          | none => rfl
          | some i =>
            simp only
            rw [bef_app _ hm]
            by_cases hb : bef dn i q' = true
            · rw [if_pos hb, if_pos hb, hb1 t (hne t i hwt (fun e => hqn (e ▸ bef_mem hb)))]
            · rw [if_neg hb, if_neg hb]
      · obtain rfl : q' = q := by simpa using hm
        refine ⟨_, f, b, d, v, ho, hd, hag, hb1d, fun w hw => hrw w (hHB w hw), fun t ht => ?_⟩
        cases hwt : writer os t with
        | none => exact h2 t (by simp [hwt])
        | some i =>
          simp only
          by_cases hb : bef (dn ++ [q']) i q' = true
          · have hm := (bef_self [] hqn).1 hb
            rw [if_pos hb, hb1 t (hne t i hwt (fun e => hqn (e ▸ hm)))]
          · rw [if_neg hb]
            refine h2 t fun i' hi' hm => hb ((bef_self [] hqn).2 ?_)
            rw [hwt] at hi'
            rw [Option.some.inj hi']
            exact hm
    have hass : dn ++ [q] ++ qs = dn ++ q :: qs := by simp
    obtain ⟨b', lq, r1, r2, r3, r4, r5⟩ := ih (dn ++ [q]) b1 ((d, v) :: f) (by rw [hass]; exact hnd) (fun q' hq' => hlt q' (by simp [hq'])) hag1 h2' h3' hr
    rw [hass] at r3 r4
    refine ⟨b', lq, r1, r2, r3, r4, fun t ht => ?_⟩
    rw [r5 t (fun i hi hm => ht i hi (by simp [hm]))]
    exact hb1 t (fun e => by subst e; exact ht q hwd (by simp))
theorem headsOf_mem (rem : List (List (Nat × Bool × List Nat))) : ∀ {i : Nat}, rem.any (headSt i) = true → ∃ s ∈ headsOf rem, s.1 = i := by
  induction rem with
  | nil => intro i h; simp at h
  | cons p r ih =>
    intro i h
    cases p with
    | nil =>
      have h' : r.any (headSt i) = true := by simpa [headSt] using h
      exact ih h'
    | cons s p =>
      simp only [List.any_cons, headSt, Bool.or_eq_true] at h
      unfold headsOf
      cases hb : r.any (headSt s.1) with
      | true =>
        rcases h with h | h
        · rw [Nat.eq_of_beq_eq_true h] at hb; exact ih hb
        · exact ih h
      | false =>
        rcases h with h | h
        · exact ⟨s, by simp, Nat.eq_of_beq_eq_true h⟩
        · obtain ⟨s', h1, h2⟩ := ih h
          exact ⟨s', by simp [h1], h2⟩
def LookOk (os : List Oper) (dn : List Nat) (i : Nat) : Prop := ∃ o, os[i]? = some o ∧ ∀ t ∈ o.looksAt os.toArray, ∀ j, writer os t = some j → (j < i → bef dn j i = true) ∧ (¬ j < i → bef dn j i = false)
theorem chkLook_ok {os : List Oper} {dn : List Nat} {i : Nat} (h : chkLook os dn i = true) : LookOk os dn i := by
  unfold chkLook at h
  cases ho : os[i]? with
  | none => rw [ho] at h; cases h
  | some o =>
    rw [ho] at h
    refine ⟨o, ho, fun t ht j hj => ?_⟩
    have h9 := List.all_eq_true.1 h t ht
    rw [hj] at h9
    simp only at h9
    refine ⟨fun hji => ?_, fun hji => ?_⟩
    · rw [show Nat.blt j i = true from Nat.ble_eq_true_of_le hji] at h9; exact h9
    · have : Nat.blt j i = false := by
        cases hb : Nat.blt j i with
        | false => rfl
        | true => exact absurd (Nat.le_of_ble_eq_true hb) hji
      rw [this] at h9
      simpa using h9
theorem LookOk.app {os : List Oper} {dn : List Nat} {i : Nat} (h : LookOk os dn i) (hi : i ∈ dn) (x : List Nat) : LookOk os (dn ++ x) i := by
  obtain ⟨o, ho, h⟩ := h
  exact ⟨o, ho, fun t ht j hj => by rw [bef_app x hi]; exact h t ht j hj⟩

theorem CW.drawU {P : Program} {n : Nat} {Q : Post} {l : Fr} {H : World → Prop} {id : Nat} {os : List Oper} (p0 : List Nat) (k0 : Nat) (pls : List (List (Nat × Bool × List Nat))) (HB : World → Prop) (hm : P.follows .mixedOrders = true) (hchk : chkU n p0 k0 pls os = true)
    (hH : ∀ w, H w → H w.drew) (hHB : ∀ w, H w → HB w)
    (h : QuP P n os.toArray HB (fun lq => UW P n os Q k0 pls HB lq H) (p0.map (fun q => os.getD q default)) l) : CW P n (.region id os.toArray true) Q l H := by
  intro w hw a ha
  unfold chkU at hchk
  simp only [Bool.and_eq_true] at hchk
  obtain ⟨⟨⟨hbase, hnd0⟩, hlk0⟩, hcw0⟩ := hchk
  have hpart : ∀ (i : Nat) (o : Oper), os[i]? = some o → (∀ d, o.dst = some d → d < n ∧ writer os d = some i) ∧ (∀ t ∈ o.looksAt os.toArray, seesOk os i o t = true) ∧
      (∀ e ∈ o.after, Region.binds .any e = true → e.on < i) ∧ (∀ cs b, o.op ≠ .select cs b) := by
    intro i o ho
    have hlt := (List.getElem?_eq_some_iff.1 ho).1
    have := List.all_eq_true.1 hbase i (by simpa using hlt)
    rw [ho] at this
    unfold chkBase at this
    simp only [Bool.and_eq_true] at this
    obtain ⟨⟨⟨h1, h2⟩, h4⟩, h5⟩ := this
    refine ⟨fun d hd => ?_, fun t ht => List.all_eq_true.1 h2 t ht, fun e he hb => ?_, fun cs b hs => by rw [hs] at h5; cases h5⟩
    · rw [hd] at h1
      simp only [Bool.and_eq_true] at h1
      refine ⟨Nat.le_of_ble_eq_true h1.1, ?_⟩
      cases hwd : writer os d with
      | none => rw [hwd] at h1; cases h1.2
      | some j => rw [hwd] at h1; rw [Nat.eq_of_beq_eq_true h1.2]
    · have := Array.all_eq_true_iff_forall_mem.1 h4 e he
      simp only [Bool.or_eq_true, Bool.not_eq_true', hb] at this
      rcases this with this | this
      · cases this
      · exact Nat.le_of_ble_eq_true this
  have hwt : ∀ (i : Nat) (o : Oper) (d : Nat), os[i]? = some o → o.dst = some d → d < n ∧ writer os d = some i := fun i o d ho hd => (hpart i o ho).1 d hd
  have hwr : ∀ t j, writer os t = some j → ∃ o, os[j]? = some o ∧ o.dst = some t := by
    intro t j hwt
    obtain ⟨x, hx, hp⟩ := findIdx?_some_get hwt
    refine ⟨x, hx, ?_⟩
    cases hd : x.dst with
    | none => rw [hd] at hp; cases hp
    | some d => rw [hd] at hp; rw [Nat.eq_of_beq_eq_true hp]
  have hlk0' : ∀ i ∈ p0, LookOk os p0 i := fun i hi => chkLook_ok (List.all_eq_true.1 hlk0 i hi)
  have hlt0 : ∀ q ∈ p0, q < os.length := fun q hq => let ⟨_, ho, _⟩ := hlk0' q hq; (List.getElem?_eq_some_iff.1 ho).1
  -- the first quiet ones
  have hD0 : I3 P n os a (fun _ => false) HB [] a := fun q hq => by simp at hq
  obtain ⟨b0, lq0, hag0, huw0, h20, h30, hkeep0⟩ := quRun (D := fun _ => false) (a0 := a) (HBa := HB) hwt (fun _ h => h) p0 [] a l (by simpa using nodupB_nodup _ hnd0) hlt0 ha (fun t _ => rfl) hD0 h
  simp only [List.nil_append] at h20 h30
  let S : (Nat → Bool) → Act → World → Prop := fun D a1 w1 => ∃ (k : Nat) (pre : List (Nat × Bool × List Nat)) (rem : List (List (Nat × Bool × List Nat))) (b : Act) (HBa : World → Prop) (l2 : Fr), chkW os p0 k pre rem = true ∧ (∀ i ∈ p0 ++ flatSt pre, LookOk os (p0 ++ flatSt pre) i) ∧
    a1.tmps.size = n ∧ a1.defers = [] ∧ Agr n l2 b ∧
    (∀ i, D i = true → i ∈ p0 ++ flatSt pre) ∧ (∀ s ∈ pre, D s.1 = true) ∧
    (∀ (j : Nat) (o : Oper), os[j]? = some o → D j = true → ∀ e ∈ o.after, Region.binds .any e = true → D e.on = true) ∧
    (∀ t, a1.tmps[t]? = (match writer os t with
      | some i => if D i = true then b.tmps[t]? else a.tmps[t]?
      | none => a.tmps[t]?)) ∧
    I2 os a (p0 ++ flatSt pre) b ∧ I3 P n os a D HBa (p0 ++ flatSt pre) b ∧ HBa w1 ∧ UW P n os Q k rem HBa l2 (fun x => x = w1)
  refine wp_region_any hm ?_
  refine any_of (P := P) (ops := os.toArray) (Q := On n Q) S ?_ ?_ ?_ _ _ a _ (by simp) (by simp) ?_
  · rintro D i o a1 w1 ho hDi hpre ⟨k, pre, rem, b, HBa, l2, hcw, hlk, hsa, hda, hagb, hDdn, hspD, hcl, hval, h2, h3, hHBa, huw⟩
    have ho' : os[i]? = some o := by simpa using ho
    have hio := (List.getElem?_eq_some_iff.1 ho').1
    obtain ⟨hd1, hsee, hbk, hnsel⟩ := hpart i o ho'
    have hcl' : ∀ (j : Nat) (o' : Oper), os[j]? = some o' → (D j || j == i) = true → ∀ e ∈ o'.after, Region.binds .any e = true → (D e.on || e.on == i) = true := by
      intro j' o' ho2 hDj e he hbd
      simp only [Bool.or_eq_true, beq_iff_eq] at hDj ⊢
      rcases hDj with hDj | rfl
      · exact .inl (hcl j' o' ho2 hDj e he hbd)
      · rw [ho'] at ho2
        simp only [Option.some.injEq] at ho2
        subst ho2
        exact .inl (hpre e he hbd)
    have hiD : ∀ (o2 : Oper), os[i]? = some o2 → ∀ e ∈ o2.after, Region.binds .any e = true → D e.on = true := by
      intro o2 ho2
      rw [ho'] at ho2
      simp only [Option.some.injEq] at ho2
      subst ho2
      exact hpre
    -- what a slot that it looks at holds
    have hlooks : ∀ t ∈ o.looksAt os.toArray, a1.tmps[t]? = (match writer os t with
        | some i' => if i' < i then b.tmps[t]? else a.tmps[t]?
        | none => a.tmps[t]?) := by
      intro t ht
      have hs := hsee t ht
      rw [hval t]
      unfold seesOk at hs
      cases hwt' : writer os t with
      | none => rfl
      | some j' =>
        rw [hwt'] at hs
        simp only at hs ⊢
        cases hb1 : Nat.blt j' i with
        | true =>
          rw [hb1] at hs
          have hji : j' < i := Nat.le_of_ble_eq_true hb1
          obtain ⟨e, he, hbd, hej⟩ := edgeOn_mem hs
          have hDj := hpre e he hbd
          rw [hej] at hDj
          rw [if_pos hDj, if_pos hji]
        | false =>
          rw [hb1] at hs
          have hnji : ¬ j' < i := fun hlt => by
            have : Nat.blt j' i = true := Nat.ble_eq_true_of_le hlt
            rw [this] at hb1; cases hb1
          rw [if_neg hnji]
          cases hb2 : Nat.blt i j' with
          | true =>
            rw [hb2] at hs
            cases hoj : os[j']? with
            | none => rw [hoj] at hs; cases hs
            | some oj =>
              rw [hoj] at hs
              obtain ⟨e, he, hbd, hei⟩ := edgeOn_mem hs
              have hDj : ¬ D j' = true := fun hDj => by
                have := hcl j' oj hoj hDj e he hbd
                rw [hei, hDi] at this; cases this
              rw [if_neg hDj]
          | false => rw [hb2] at hs; cases hs
    unfold wpOp
    rw [ho]
    simp only
    by_cases hidn : i ∈ p0 ++ flatSt pre
    · -- a quiet one that is due
      obtain ⟨o2, f, bq, d, v, e1, hd, hagf, hv, hrw, hbq⟩ := h3 i hidn hDi
      rw [ho'] at e1
      simp only [Option.some.injEq] at e1
      subst e1
      obtain ⟨hdn, hwd⟩ := hd1 d hd
      obtain ⟨o', e1, hlook⟩ := hlk i hidn
      rw [ho'] at e1
      simp only [Option.some.injEq] at e1
      subst e1
      have hsame : ∀ t ∈ o.looksAt os.toArray, bq.tmps[t]? = a1.tmps[t]? := by
        intro t ht
        rw [hbq t ht, hlooks t ht]
        cases hwt' : writer os t with
        | none => rfl
        | some j' =>
          simp only
          have hb := hlook t ht j' hwt'
          by_cases hji : j' < i
          · rw [if_pos (hb.1 hji), if_pos hji]
          · rw [if_neg (by rw [hb.2 hji]; simp), if_neg hji]
      have heval : ∀ x ∈ o.op.operands, bq.eval x = a1.eval x := by
        intro x hx
        cases x with
        | tmp t =>
          have ht : t ∈ o.looksAt os.toArray := by
            unfold Oper.looksAt
            refine List.mem_append_left _ (List.mem_filterMap.2 ⟨.tmp t, by simpa using hx, rfl⟩)
          simp only [Act.eval, Array.getD_eq_getD_getElem?, hsame t ht]
        | _ => rfl
      have hexec := execOp_congr o hnsel heval
      have hwant : Region.wanted o (yielded os.toArray bq.tmps) = Region.wanted o (yielded os.toArray a1.tmps) := by
        unfold Region.wanted
        cases hg : o.guard with
        | none => rfl
        | some jw =>
          obtain ⟨j', want⟩ := jw
          simp only
          congr 1
          unfold yielded
          cases hdj : (os.toArray[j']?).bind (·.dst) with
          | none => rfl
          | some t =>
            have ht : t ∈ o.looksAt os.toArray := by
              unfold Oper.looksAt
              refine List.mem_append_right _ ?_
              simp only [hg, hdj]
              simp
            simp only [Option.bind_some, hsame t ht]
      have hwp := hrw w1 hHBa w1 rfl bq hagf
      have hnext : ∀ v' w', On n (Jn ((d, v) :: f) (fun x => x = w1)) .normal (bq.put o.dst v') w' → S (fun j => D j || j == i) (a1.put o.dst v') w' := by
        rintro v' w' ⟨l1, hl1, hs1, rfl⟩
        have hv' : v' = v := by
          have h1 := hl1.val d v (hs1 d v (by simp [look]))
          rw [hd] at h1
          simp only [Act.put] at h1
          rw [Array.getElem?_setIfInBounds] at h1
          simp [hagf.size, hdn] at h1
          exact h1
        subst hv'
        refine ⟨k, pre, rem, b, HBa, l2, hcw, hlk, by rw [hd]; simp [Act.put, hsa], by rw [hd]; exact hda, hagb, fun i' hi' => ?_, fun s hs => by simp [hspD s hs], hcl', fun t => ?_, h2, fun q hq hDq => ?_, hHBa, huw⟩
        · simp only [Bool.or_eq_true, beq_iff_eq] at hi'
          rcases hi' with hi' | rfl
          · exact hDdn i' hi'
          · exact hidn
        · rw [hd]
          simp only [Act.put]
          by_cases htd : d = t
          · subst htd
            rw [hwd]
            simp [hsa, hdn, hv]
          · rw [Array.getElem?_setIfInBounds_ne htd, hval t]
            cases hwt' : writer os t with
            | none => rfl
            | some j' =>
              have hji : j' ≠ i := by
                rintro rfl
                obtain ⟨x, hx, hxd⟩ := hwr t j' hwt'
                rw [ho'] at hx
                simp only [Option.some.injEq] at hx
                subst hx
                rw [hd] at hxd
                simp only [Option.some.injEq] at hxd
                exact htd hxd
              have : (j' == i) = false := by simpa using hji
              simp [this]
        · simp only [Bool.or_eq_false_iff] at hDq
          exact h3 q hq hDq.1
      unfold wpList at hwp
      split
      · rename_i hwn
        rw [hwant, if_pos hwn] at hwp
        rcases hwp with hwp | ⟨_, a0, w0, l0, _, hq0⟩
        · refine .inl (wp_transfer hexec (fun v' w' hk => hnext v' w' hk) ?_ ?_ ?_ hwp)
          · rintro d0 v0 w0 ⟨l0, hl0, _⟩
            have := hl0.nod
            rw [hd] at this
            simp [Act.put] at this
          · rintro c w0 ⟨l0, _, hq0⟩
            exact hq0.elim
          · rintro ⟨a0, w0, l0, _, hq0⟩
            exact hq0.elim
        · exact hq0.elim
      · rename_i hwn
        rw [hwant, if_neg hwn] at hwp
        exact hnext _ _ hwp
    · -- the next of the stages' own
      cases k with
      | zero =>
        unfold chkW at hcw
        exact absurd (any_beq.1 (List.all_eq_true.1 hcw i (by simpa using hio))) hidn
      | succ k =>
      unfold chkW at hcw
      simp only [Bool.and_eq_true] at hcw
      obtain ⟨⟨_, hnx⟩, hst⟩ := hcw
      obtain ⟨s, hsm, hsi⟩ : ∃ s ∈ headsOf rem, s.1 = i := by
        have h0 := List.all_eq_true.1 hnx i (by simpa using hio)
        simp only [Bool.or_eq_true] at h0
        rcases h0 with (h0 | h0) | h0
        · exact absurd (any_beq.1 h0) hidn
        · exact headsOf_mem rem h0
        · exfalso
          obtain ⟨m, _, hm2⟩ := List.any_eq_true.1 h0
          simp only [Bool.and_eq_true, Bool.not_eq_true'] at hm2
          have hDm := ahead_done hcl hiD hm2.2
          rw [any_beq.2 (hDdn m hDm)] at hm2
          exact absurd hm2.1 (by simp)
      subst hsi
      have hst := List.all_eq_true.1 hst s hsm
      simp only [Bool.and_eq_true] at hst
      obtain ⟨⟨⟨hndB, hlkB⟩, hhdB⟩, hcw1⟩ := hst
      have hdn1 : p0 ++ flatSt (pre ++ [s]) = (p0 ++ flatSt pre) ++ [s.1] ++ s.2.2 := by
        rw [flatSt_app]
        simp [flatSt]
      have hnd1 : ((p0 ++ flatSt pre) ++ [s.1] ++ s.2.2).Nodup := by rw [← hdn1]; exact nodupB_nodup _ hndB
      have hlk1 : ∀ i ∈ s.1 :: s.2.2, LookOk os (p0 ++ flatSt (pre ++ [s])) i := fun i hi => chkLook_ok (List.all_eq_true.1 hlkB i hi)
      have hlkn : ∀ i ∈ p0 ++ flatSt (pre ++ [s]), LookOk os (p0 ++ flatSt (pre ++ [s])) i := by
        intro i' hi'
        rw [hdn1] at hi'
        rcases List.mem_append.1 hi' with hi' | hi'
        · rcases List.mem_append.1 hi' with hi' | hi'
          · rw [hdn1, List.append_assoc]
            exact (hlk i' hi').app hi' _
          · exact hlk1 i' (by simp at hi'; simp [hi'])
        · exact hlk1 i' (by simp [hi'])
      obtain ⟨o', e1, hlook⟩ := hlk1 s.1 (by simp)
      rw [ho'] at e1
      simp only [Option.some.injEq] at e1
      subst e1
      have hos : os.getD s.1 default = o := by simp [List.getD, ho']
      have hstep := huw s hsm
      rw [hos] at hstep
      have hsame : ∀ t ∈ o.looksAt os.toArray, b.tmps[t]? = a1.tmps[t]? := by
        intro t ht
        rw [hlooks t ht]
        cases hwt' : writer os t with
        | none => exact h2 t (by simp [hwt'])
        | some j' =>
          simp only
          have hb := hlook t ht j' hwt'
          rw [hdn1, List.append_assoc, List.singleton_append] at hb
          by_cases hji : j' < s.1
          · rw [if_pos hji]
          · rw [if_neg hji]
            refine h2 t fun i' hi' hm => ?_
            rw [hwt'] at hi'
            obtain rfl := Option.some.inj hi'
            have := hb.2 hji
            rw [(bef_self _ hidn).2 hm] at this
            cases this
      have heval : ∀ x ∈ o.op.operands, b.eval x = a1.eval x := by
        intro x hx
        cases x with
        | tmp t =>
          have ht : t ∈ o.looksAt os.toArray := by
            unfold Oper.looksAt
            refine List.mem_append_left _ (List.mem_filterMap.2 ⟨.tmp t, by simpa using hx, rfl⟩)
          simp only [Act.eval, Array.getD_eq_getD_getElem?, hsame t ht]
        | _ => rfl
      have hexec := execOp_congr o hnsel heval
      have hwant : Region.wanted o (yielded os.toArray b.tmps) = Region.wanted o (yielded os.toArray a1.tmps) := by
        unfold Region.wanted
        cases hg : o.guard with
        | none => rfl
        | some jw =>
          obtain ⟨j', want⟩ := jw
          simp only
          congr 1
          unfold yielded
          cases hdj : (os.toArray[j']?).bind (·.dst) with
          | none => rfl
          | some t =>
            have ht : t ∈ o.looksAt os.toArray := by
              unfold Oper.looksAt
              refine List.mem_append_right _ ?_
              simp only [hg, hdj]
              simp
            simp only [Option.bind_some, hsame t ht]
      have hhard : s.2.1 = true → ∀ q ∈ p0 ++ flatSt pre, D q = true := by
        intro hh q hq
        rw [hh] at hhdB
        simp only [Bool.not_true, Bool.false_or] at hhdB
        have := List.all_eq_true.1 hhdB q hq
        simp only [Bool.or_eq_true] at this
        rcases this with h0 | h0
        · obtain ⟨r, hr, he⟩ := List.any_eq_true.1 h0
          rw [← Nat.eq_of_beq_eq_true he]
          exact hspD r hr
        · exact ahead_done hcl hiD h0
      have hnext : ∀ v' w', On n (Sp1 (fun l' w' => (s.2.1 = true ∨ HBa w') ∧ ∃ HB : World → Prop, HB w' ∧ QuP P n os.toArray HB (fun lq => UW P n os Q k (tailsOf s.1 rem) (fun x => (s.2.1 = true ∨ HBa x) ∧ HB x) lq (fun x => x = w')) (s.2.2.map (fun q => os.getD q default)) l')) .normal (b.put o.dst v') w' →
          S (fun j => D j || j == s.1) (a1.put o.dst v') w' := by
        rintro v' w' ⟨l3, hl3, hor, HB1, hHB1, hqu⟩
        have hb1 : ∀ t, writer os t ≠ some s.1 → (b.put o.dst v').tmps[t]? = b.tmps[t]? := by
          intro t ht
          cases hd : o.dst with
          | none => rfl
          | some d =>
            simp only [Act.put]
            refine Array.getElem?_setIfInBounds_ne fun e => ?_
            subst e
            exact ht (hd1 d hd).2
        have ha1 : ∀ t, writer os t ≠ some s.1 → (a1.put o.dst v').tmps[t]? = a1.tmps[t]? := by
          intro t ht
          cases hd : o.dst with
          | none => rfl
          | some d =>
            simp only [Act.put]
            refine Array.getElem?_setIfInBounds_ne fun e => ?_
            subst e
            exact ht (hd1 d hd).2
        have hab1 : ∀ t, writer os t = some s.1 → (a1.put o.dst v').tmps[t]? = (b.put o.dst v').tmps[t]? := by
          intro t ht
          obtain ⟨x, hx, hxd⟩ := hwr t s.1 ht
          rw [ho'] at hx
          simp only [Option.some.injEq] at hx
          subst hx
          have htn := (hd1 t hxd).1
          rw [hxd]
          simp [Act.put, hsa, hagb.size, htn]
        have h2' : I2 os a ((p0 ++ flatSt pre) ++ [s.1]) (b.put o.dst v') := by
          intro t ht
          rw [hb1 t (fun e => ht s.1 e (by simp))]
          exact h2 t fun i' hi' hm => ht i' hi' (by simp only [List.mem_append]; exact .inl (List.mem_append.1 hm))
        let HBn : World → Prop := fun x => (s.2.1 = true ∨ HBa x) ∧ HB1 x
        have h3' : I3 P n os a (fun j => D j || j == s.1) HBn ((p0 ++ flatSt pre) ++ [s.1]) (b.put o.dst v') := by
          intro q hq hDq
          simp only [Bool.or_eq_false_iff] at hDq
          have hqs : q ≠ s.1 := by simpa using hDq.2
          have hq' : q ∈ p0 ++ flatSt pre := by
            rcases List.mem_append.1 hq with h | h
            · exact h
            · exact absurd (by simpa using h) hqs
          obtain ⟨oq, f, bq, d, v, e1, e2, e3, e4, e5, e6⟩ := h3 q hq' hDq.1
          refine ⟨oq, f, bq, d, v, e1, e2, e3, ?_, fun w hw => ?_, fun t ht => ?_⟩
          · rw [hb1 d (fun e => by rw [(hwt q oq d e1 e2).2] at e; exact hqs (Option.some.inj e))]; exact e4
          · rcases hw.1 with hh | hh
            · have := hhard hh q hq'
              rw [hDq.1] at this; cases this
            · exact e5 w hh
          · rw [e6 t ht]
            cases hwt' : writer os t with
            | none => rfl
            | some i' =>
              simp only
              rw [bef_app _ hq']
              by_cases hb : bef (p0 ++ flatSt pre) i' q = true
              · rw [if_pos hb, if_pos hb, hb1 t (fun e => by rw [hwt'] at e; exact hidn (Option.some.inj e ▸ bef_mem hb))]
              · rw [if_neg hb, if_neg hb]
        obtain ⟨b', lq, r1, r2, r3, r4, r5⟩ := quRun (D := fun j => D j || j == s.1) (a0 := a) (HBa := HBn) (HB := HB1) hwt (fun _ h => h.2) s.2.2 _ _ _ hnd1 (fun q hq => let ⟨_, ho, _⟩ := hlk1 q (by simp [hq]); (List.getElem?_eq_some_iff.1 ho).1) hl3 h2' h3' hqu
        have hDsub : ∀ i', (D i' || i' == s.1) = true → i' ∈ (p0 ++ flatSt pre) ++ [s.1] := by
          intro i' hi'
          simp only [Bool.or_eq_true, beq_iff_eq] at hi'
          rcases hi' with hi' | rfl
          · exact List.mem_append_left _ (hDdn i' hi')
          · exact List.mem_append_right _ (by simp)
        refine ⟨k, pre ++ [s], tailsOf s.1 rem, b', HBn, lq, hcw1, hlkn, by cases o.dst <;> simp [Act.put, hsa], by cases o.dst <;> simp [Act.put, hda], r1, fun i' hi' => ?_, fun s' hs' => ?_, hcl', fun t => ?_, ?_, ?_, ⟨hor, hHB1⟩, r2⟩
        · rw [hdn1]
          exact List.mem_append_left _ (hDsub i' hi')
        · rcases List.mem_append.1 hs' with h | h
          · simp [hspD s' h]
          · obtain rfl : s' = s := by simpa using h
            simp
        · cases hwt' : writer os t with
          | none =>
            simp only
            rw [ha1 t (by rw [hwt']; simp), hval t, hwt']
          | some i' =>
            simp only
            have hnq : (D i' || i' == s.1) = true → b'.tmps[t]? = (b.put o.dst v').tmps[t]? := by
              intro hi'
              refine r5 t fun i2 hi2 hm => ?_
              rw [hwt'] at hi2
              obtain rfl := Option.some.inj hi2
              exact (List.nodup_append.1 hnd1).2.2 _ (hDsub i' hi') _ hm rfl
            by_cases his : i' = s.1
            · subst his
              rw [hab1 t hwt', if_pos (by simp), hnq (by simp)]
            · have hne : writer os t ≠ some s.1 := by rw [hwt']; exact fun e => his (Option.some.inj e)
              have hbq : (i' == s.1) = false := by simpa using his
              rw [ha1 t hne, hval t, hwt']
              simp only [hbq, Bool.or_false]
              by_cases hDi' : D i' = true
              · rw [if_pos hDi', if_pos hDi', hnq (by simp [hDi']), hb1 t hne]
              · rw [if_neg hDi', if_neg hDi']
        · rw [hdn1]; exact r3
        · rw [hdn1]; exact r4
      have hwp : wpList P os.toArray _ [o] b w1 := hstep w1 rfl b hagb
      unfold wpList at hwp
      rw [hwant] at hwp
      split at hwp
      · rename_i hwn
        rw [if_pos hwn]
        rcases hwp with hwp | ⟨_, a0, w0, l0, _, hq0⟩
        · refine .inl (wp_transfer hexec (fun v' w' hk2 => hnext v' w' hk2) ?_ ?_ ?_ hwp)
          · rintro d0 v0 w0 ⟨l0, hl0, _⟩
            have := hl0.nod
            cases hd : o.dst <;> rw [hd] at this <;> simp [Act.put] at this
          · rintro c w0 ⟨l0, _, hq0⟩
            exact hq0.elim
          · rintro ⟨a0, w0, l0, _, hq0⟩
            exact hq0.elim
        · exact hq0.elim
      · rename_i hwn
        rw [if_neg hwn]
        exact hnext _ _ hwp
  · rintro D a1 w1 hD ⟨k, pre, rem, b, HBa, l2, hcw, hlk, hsa, hda, hagb, hDdn, hspD, hcl, hval, h2, h3, hHBa, huw⟩
    have hDall : ∀ i, i < os.length → D i = true := fun i hi => hD i (by simpa using hi)
    have hab : ∀ (t : Nat), a1.tmps[t]? = b.tmps[t]? := by
      intro t
      rw [hval t]
      cases hwt' : writer os t with
      | none => exact (h2 t (by simp [hwt'])).symm
      | some i =>
        obtain ⟨x, hx, _⟩ := hwr t i hwt'
        simp only
        rw [if_pos (hDall i (List.getElem?_eq_some_iff.1 hx).1)]
    have hagr : Agr n l2 a1 := ⟨hsa, hda, fun t v hv => by rw [hab t]; exact hagb.val t v hv⟩
    cases k with
    | zero => exact ⟨l2, hagr, huw w1 rfl⟩
    | succ k =>
      exfalso
      unfold chkW at hcw
      simp only [Bool.and_eq_true] at hcw
      obtain ⟨⟨hne, _⟩, hst⟩ := hcw
      cases hh : headsOf rem with
      | nil => rw [hh] at hne; cases hne
      | cons s r =>
        have h1 := List.all_eq_true.1 hst s (by rw [hh]; simp)
        simp only [Bool.and_eq_true] at h1
        obtain ⟨⟨⟨hndB, hlkB⟩, _⟩, _⟩ := h1
        obtain ⟨o, ho, _⟩ := chkLook_ok (List.all_eq_true.1 hlkB s.1 (by simp))
        have hsd := hDdn s.1 (hDall _ (List.getElem?_eq_some_iff.1 ho).1)
        have hnd := nodupB_nodup _ hndB
        rw [flatSt_app, ← List.append_assoc, List.nodup_append] at hnd
        exact hnd.2.2 _ hsd s.1 (by simp [flatSt]) rfl
  · intro i o ho e he hb
    obtain ⟨_, _, h3, _⟩ := hpart i o (by simpa using ho)
    exact h3 e he hb
  · have hf : ∀ j, (Array.replicate os.toArray.size false).getD j false = false := by
      intro j
      simp only [Array.getD_eq_getD_getElem?, Array.getElem?_replicate]
      split <;> rfl
    refine ⟨k0, [], pls, b0, HB, lq0, hcw0, by simpa [flatSt] using hlk0', ha.size, ha.nod, hag0, fun i hi => absurd ((hf i).symm.trans hi) (by simp), fun s hs => by simp at hs, fun j o _ hDj => absurd ((hf j).symm.trans hDj) (by simp), fun t => ?_, by simpa [flatSt] using h20, ?_, hHB _ (hH w hw), UW.sub _ huw0 (fun x hx => hx ▸ hH w hw)⟩
    · cases writer os t with
      | none => rfl
      | some i => simp only [hf]; rfl
    · rw [show p0 ++ flatSt [] = p0 by simp [flatSt]]
      intro q hq hDq
      exact h30 q hq rfl
end Go.Proofs.Ytjmmikdbhhomiaa.Mq
