/-
  THE WALK'S OWN CALCULUS: frames as lists of slots that are known, worlds by what is known of them; one rule an operation. Plain theorems over any program; nothing here speaks of the statements.
-/
import Derived.Tactics
import Derived.Below
import Derived.Maps.AppendAt
namespace Go.Proofs.Ytjmmikdbhhomiaa.Mq
open Go Go.RowKit

/- FRAMES -/
abbrev Fr := List (Nat × Value)
def look : Fr → Nat → Option Value
  | [], _ => none
  | (d, v) :: l, t => match Nat.beq d t with
    | true => some v
    | false => look l t
def ev (l : Fr) : Operand → Option Value
  | .tmp t => look l t
  | .const v => some v
  | .global g => some (.pointer (some ⟨g, 0, none⟩))
  | .func f => some (.func (.func f) #[] #[])

structure Agr (n : Nat) (l : Fr) (a : Act) : Prop where
  size : a.tmps.size = n
  nod : a.defers = []
  val : ∀ t v, look l t = some v → a.tmps[t]? = some v

theorem Agr.ev {n : Nat} {l : Fr} {a : Act} (h : Agr n l a) {x : Operand} {v : Value} (hx : ev l x = some v) : a.eval x = v := by
  cases x with
  | tmp t => simp [Act.eval, Array.getD_eq_getD_getElem?, h.val t v hx]
  | const c => simpa [Mq.ev, Act.eval] using hx
  | global g => simpa [Mq.ev, Act.eval] using hx
  | func f => simpa [Mq.ev, Act.eval] using hx

theorem Agr.put {n : Nat} {l : Fr} {a : Act} (h : Agr n l a) {d : Nat} (hd : d < n) (v : Value) : Agr n ((d, v) :: l) (a.put (some d) v) := by
  refine ⟨by simp [Act.put, h.size], h.nod, fun t u hu => ?_⟩
  have hs := h.size
  simp only [look] at hu
  cases hb : Nat.beq d t with
  | true =>
    rw [hb] at hu
    have he := Nat.eq_of_beq_eq_true hb
    subst he
    simp only [Option.some.injEq] at hu
    subst hu
    simp [Act.put, hs, hd]
  | false =>
    rw [hb] at hu
    have hne : d ≠ t := Nat.ne_of_beq_eq_false hb
    simp only [Act.put]
    rw [Array.getElem?_setIfInBounds_ne hne]
    exact h.val t u hu

theorem Agr.skip {n : Nat} {l : Fr} {a : Act} (h : Agr n l a) (v : Value) : Agr n l (a.put none v) := h

def Sub (l l' : Fr) : Prop := ∀ t v, look l' t = some v → look l t = some v
theorem Sub.nil {l : Fr} : Sub l [] := fun t v h => by simp [look] at h
theorem Sub.cons {l l' : Fr} {t : Nat} {v : Value} (h : look l t = some v) (hs : Sub l l') : Sub l ((t, v) :: l') := by
  intro u x hx
  simp only [look] at hx
  cases hb : Nat.beq t u with
  | true =>
    rw [hb] at hx
    have he := Nat.eq_of_beq_eq_true hb
    subst he
    simp only [Option.some.injEq] at hx
    subst hx
    exact h
  | false => rw [hb] at hx; exact hs u x hx
theorem Sub.refl (l : Fr) : Sub l l := fun _ _ h => h
theorem Agr.sub {n : Nat} {l l' : Fr} {a : Act} (h : Agr n l a) (hs : Sub l l') : Agr n l' a := ⟨h.size, h.nod, fun t v hv => h.val t v (hs t v hv)⟩

/- JUDGEMENTS -/
abbrev Post := Exit → Fr → World → Prop
def On (n : Nat) (Q : Post) : Exit → Act → World → Prop := fun e a w => ∃ l, Agr n l a ∧ Q e l w
def CW1 (P : Program) (n : Nat) (c : Code) (Q : Post) (l : Fr) (w : World) : Prop := ∀ a, Agr n l a → c.wp P (On n Q) a w
def CW (P : Program) (n : Nat) (c : Code) (Q : Post) (l : Fr) (H : World → Prop) : Prop := ∀ w, H w → CW1 P n c Q l w
def EX (Q : Post) (e : Exit) (l : Fr) (H : World → Prop) : Prop := ∀ w, H w → Q e l w
def RW (P : Program) (n : Nat) (ops : Array Oper) (Q : Post) (rest : List Oper) (l : Fr) (H : World → Prop) : Prop :=
  ∀ w, H w → ∀ a, Agr n l a → wpList P ops (On n Q) rest a w

def Sq (K : Fr → World → Prop) (Q : Post) : Post
  | .normal, l, w => K l w
  | e, l, w => Q e l w
def Bk (id : Nat) (Q : Post) : Post
  | .exit id', l, w => if id' = id then Q .normal l w else Q (.exit id') l w
  | e, l, w => Q e l w
def Lp {ι : Type} (fr : ι → Fr) (Hi : ι → World → Prop) (ok : ι → Prop) (μ : ι → Nat) (m : Nat) (Q : Post) : Post
  | .normal, l, w => ∃ i, ok i ∧ μ i < m ∧ Sub l (fr i) ∧ Hi i w
  | e, l, w => Q e l w
def Fin (P : Program) (n : Nat) (fn : Func) (R : Ending → World → Prop) : Post
  | .normal, l, w | .ret, l, w => ∀ a, Agr n l a → ∃ v, (results fn a.tmps).run P w = .ok v w ∧ R (.returned v) w
  | _, _, _ => False

section
variable {P : Program} {n : Nat} {Q : Post} {l : Fr} {H : World → Prop}

theorem CW.mono {c : Code} {Q' : Post} (h : CW P n c Q l H) (hq : ∀ e l w, Q e l w → Q' e l w) : CW P n c Q' l H :=
  fun w hw a ha => wp_mono (h w hw a ha) fun _ _ _ ⟨l, hl, q⟩ => ⟨l, hl, hq _ _ _ q⟩
theorem CW.sub {c : Code} {l' : Fr} {H' : World → Prop} (h : CW P n c Q l' H') (hs : Sub l l') (hH : ∀ w, H w → H' w) : CW P n c Q l H :=
  fun w hw a ha => h w (hH w hw) a (ha.sub hs)
/-- What stands here holds whatever frame and world one comes with. -/
theorem CW.seq {x y : Code} (h : CW P n x (Sq (CW1 P n y Q) Q) l H) : CW P n (.seq x y) Q l H := by
  intro w hw a ha
  refine wp_seq (wp_mono (h w hw a ha) ?_)
  intro e _ _ ⟨l', hl, hq⟩
  cases e with
  | normal => exact hq _ hl
  | _ => exact ⟨l', hl, hq⟩
theorem CW.skip (h : EX Q .normal l H) : CW P n .skip Q l H := fun w hw _ ha => wp_skip ⟨l, ha, h w hw⟩
theorem CW.label {k : Nat} (h : EX Q .normal l H) : CW P n (.label k) Q l H := fun w hw _ ha => wp_label ⟨l, ha, h w hw⟩
theorem CW.exit {id : Nat} (h : EX Q (.exit id) l H) : CW P n (.exit id) Q l H := fun w hw _ ha => wp_exit ⟨l, ha, h w hw⟩
theorem CW.ret (h : EX Q .ret l H) : CW P n .ret Q l H := fun w hw _ ha => wp_ret ⟨l, ha, h w hw⟩
theorem CW.block {id : Nat} {c : Code} (h : CW P n c (Bk id Q) l H) : CW P n (.block id c) Q l H := by
  intro w hw a ha
  refine wp_block (wp_mono (h w hw a ha) ?_)
  intro e _ _ ⟨l', hl, hq⟩
  cases e with
  | exit id' =>
    simp only [Bk] at hq
    simp only [Exit.inBlock]
    split
    · rename_i he; rw [if_pos he] at hq; exact ⟨l', hl, hq⟩
    · rename_i he; rw [if_neg he] at hq; exact ⟨l', hl, hq⟩
  | _ => exact ⟨l', hl, hq⟩
theorem CW.cond {c : Operand} {x y : Code} {t : Bool} (hc : ev l c = some (.bool t)) (ht : t = true → CW P n x Q l H) (hf : t = false → CW P n y Q l H) :
    CW P n (.cond c x y) Q l H :=
  fun w hw a ha => wp_cond_split (ha.ev hc) (fun h => ht h w hw a ha) (fun h => hf h w hw a ha)
theorem CW.loop {c : Code} {ι : Type} (fr : ι → Fr) (Hi : ι → World → Prop) (ok : ι → Prop) (μ : ι → Nat)
    (h0 : ∀ w, H w → ∃ i, ok i ∧ Sub l (fr i) ∧ Hi i w)
    (round : ∀ i, ok i → CW P n c (Lp fr Hi ok μ (μ i) Q) (fr i) (Hi i)) : CW P n (.loop c) Q l H := by
  intro w hw a ha b k cs
  have key : ∀ m i a w, μ i = m → ok i → Agr n (fr i) a → Hi i w →
      ∃ e a' w', On n Q e a' w' ∧ Arrives P (lone (b.at a (.code c :: .inLoop c :: k)) cs w) b k cs e a' w' := by
    intro m
    induction m using Nat.strongRecOn with
    | _ m ih =>
      intro i a w hm hok hag hHi
      obtain ⟨e, a₁, w₁, ⟨l₁, hl₁, hq⟩, harr⟩ := round i hok w hHi a hag b (.inLoop c :: k) cs
      cases e with
      | normal =>
        obtain ⟨i', hok', hlt, hsub, hHi'⟩ := hq
        obtain ⟨e₂, a₂, w₂, hq₂, harr₂⟩ := ih (μ i') (hm ▸ hlt) i' a₁ w₁ rfl hok' (hl₁.sub hsub) hHi'
        exact ⟨e₂, a₂, w₂, hq₂, .of_steps (Steps.trans harr (.one step_inLoop)) harr₂⟩
      | exit id => exact ⟨_, a₁, w₁, ⟨l₁, hl₁, hq⟩, .pass (x := .inLoop c) rfl (fun _ _ => .inl (by simp)) harr⟩
      | goto l => exact ⟨_, a₁, w₁, ⟨l₁, hl₁, hq⟩, .pass (x := .inLoop c) rfl (fun _ _ => .inl (by simp)) harr⟩
      | ret => exact ⟨_, a₁, w₁, ⟨l₁, hl₁, hq⟩, .pass (x := .inLoop c) rfl (fun _ _ => .inl (by simp)) harr⟩
      | panic ch => exact ⟨_, a₁, w₁, ⟨l₁, hl₁, hq⟩, .pass (x := .inLoop c) rfl (fun _ _ => .inl (by simp)) harr⟩
      | outgrown => exact ⟨_, a₁, w₁, ⟨l₁, hl₁, hq⟩, .pass (x := .inLoop c) rfl (fun _ _ => .inl (by simp)) harr⟩
  obtain ⟨i, hok, hsub, hHi⟩ := h0 w hw
  obtain ⟨e, a', w', hq, harr⟩ := key _ i a w rfl hok (ha.sub hsub) hHi
  exact ⟨e, a', w', hq, .of_steps (.one step_loop) harr⟩
theorem CW.region {id : Nat} {ops : List Oper} (h : RW P n ops.toArray Q ops l H) : CW P n (.region id ops.toArray false) Q l H :=
  fun w hw a ha => wp_region_lit (h w hw a ha)

/- where a piece of code ends -/
theorem EX.seq {y : Code} (h : CW P n y Q l H) : EX (Sq (CW1 P n y Q) Q) .normal l H := h
theorem EX.seqE {K : Fr → World → Prop} {i : Nat} (h : EX Q (.exit i) l H) : EX (Sq K Q) (.exit i) l H := h
theorem EX.seqR {K : Fr → World → Prop} (h : EX Q .ret l H) : EX (Sq K Q) .ret l H := h
theorem EX.bkN {i : Nat} (h : EX Q .normal l H) : EX (Bk i Q) .normal l H := h
theorem EX.bkR {i : Nat} (h : EX Q .ret l H) : EX (Bk i Q) .ret l H := h
theorem EX.bkE {i : Nat} (h : EX Q .normal l H) : EX (Bk i Q) (.exit i) l H := fun w hw => by simp only [Bk, if_true]; exact h w hw
theorem EX.bkO {i j : Nat} (hne : (Nat.beq i j) = false) (h : EX Q (.exit j) l H) : EX (Bk i Q) (.exit j) l H := fun w hw => by
  have : j ≠ i := fun e => Nat.ne_of_beq_eq_false hne e.symm
  simp only [Bk, if_neg this]; exact h w hw
section
variable {ι : Type} {fr : ι → Fr} {Hi : ι → World → Prop} {ok : ι → Prop} {μ : ι → Nat} {m : Nat}
theorem EX.lpE {i : Nat} (h : EX Q (.exit i) l H) : EX (Lp fr Hi ok μ m Q) (.exit i) l H := h
theorem EX.lpR (h : EX Q .ret l H) : EX (Lp fr Hi ok μ m Q) .ret l H := h
theorem EX.lpN (i : ι) (hok : ok i) (hlt : μ i < m) (hs : Sub l (fr i)) (hH : ∀ w, H w → Hi i w) : EX (Lp fr Hi ok μ m Q) .normal l H :=
  fun w hw => ⟨i, hok, hlt, hs, hH w hw⟩
theorem EX.lpW (h : ∀ w, H w → ∃ i, ok i ∧ μ i < m ∧ Sub l (fr i) ∧ Hi i w) : EX (Lp fr Hi ok μ m Q) .normal l H := h
end
theorem EX.fin1 {fn : Func} {R : Ending → World → Prop} {t : Nat} {v : Value} (hr : fn.results = #[.tmp t]) (hv : look l t = some v) (h : ∀ w, H w → R (.returned v) w) : EX (Fin P n fn R) .ret l H := by
  intro w hw a ha
  refine ⟨_, results_tmp hr _ _ _, ?_⟩
  rw [Array.getD_eq_getD_getElem?, ha.val t v hv]
  exact h w hw
theorem EX.fin1N {fn : Func} {R : Ending → World → Prop} {t : Nat} {v : Value} (hr : fn.results = #[.tmp t]) (hv : look l t = some v) (h : ∀ w, H w → R (.returned v) w) : EX (Fin P n fn R) .normal l H :=
  EX.fin1 (P := P) hr hv h
theorem EX.fin0 {fn : Func} {R : Ending → World → Prop} (hr : fn.results = #[]) (h : ∀ w, H w → R (.returned (.tuple #[])) w) : EX (Fin P n fn R) .ret l H := by
  intro w hw a ha
  exact ⟨_, results_none hr _ _ _, h w hw⟩
theorem EX.fin0N {fn : Func} {R : Ending → World → Prop} (hr : fn.results = #[]) (h : ∀ w, H w → R (.returned (.tuple #[])) w) : EX (Fin P n fn R) .normal l H :=
  EX.fin0 (P := P) hr h
theorem EX.fin2 {fn : Func} {R : Ending → World → Prop} {t u : Nat} {v x : Value} (hr : fn.results = #[.tmp t, .tmp u]) (hv : look l t = some v) (hx : look l u = some x) (h : ∀ w, H w → R (.returned (.tuple #[v, x])) w) : EX (Fin P n fn R) .ret l H := by
  intro w hw a ha
  refine ⟨_, results_tmp2 hr _ _ _, ?_⟩
  rw [Array.getD_eq_getD_getElem?, Array.getD_eq_getD_getElem?, ha.val t v hv, ha.val u x hx]
  exact h w hw
theorem EX.fin3 {fn : Func} {R : Ending → World → Prop} {t u s : Nat} {v x y : Value} (hr : fn.results = #[.tmp t, .tmp u, .tmp s]) (hv : look l t = some v) (hx : look l u = some x) (hy : look l s = some y)
    (h : ∀ w, H w → R (.returned (.tuple #[v, x, y])) w) : EX (Fin P n fn R) .ret l H := by
  intro w hw a ha
  refine ⟨.tuple #[v, x, y], ?_, h w hw⟩
  simp [results, hr, Array.getD_eq_getD_getElem?, ha.val t v hv, ha.val u x hx, ha.val s y hy]

theorem RW.nil {ops : Array Oper} (h : EX Q .normal l H) : RW P n ops Q [] l H := fun w hw _ ha => wpList_nil ⟨l, ha, h w hw⟩
theorem RW.sub {ops : Array Oper} {rest : List Oper} {l' : Fr} {H' : World → Prop} (h : RW P n ops Q rest l' H') (hs : Sub l l') (hH : ∀ w, H w → H' w) : RW P n ops Q rest l H :=
  fun w hw a ha => h w (hH w hw) a (ha.sub hs)
end

/- A CALL: from its frame to its end -/
def args0 : List Value → Nat → Fr
  | [], _ => []
  | v :: vs, k => (k, v) :: args0 vs (k + 1)
theorem look_args0 (vs : List Value) : ∀ (k t : Nat) (v : Value), look (args0 vs k) t = some v → k ≤ t ∧ vs[t - k]? = some v := by
  induction vs with
  | nil => intro k t v h; simp [args0, look] at h
  | cons x xs ih =>
    intro k t v h
    simp only [args0, look] at h
    cases hb : Nat.beq k t with
    | true =>
      rw [hb] at h
      have he := Nat.eq_of_beq_eq_true hb
      subst he
      simpa using h
    | false =>
      rw [hb] at h
      have hne := Nat.ne_of_beq_eq_false hb
      obtain ⟨h1, h2⟩ := ih (k + 1) t v h
      refine ⟨by omega, ?_⟩
      have : t - k = (t - (k + 1)) + 1 := by omega
      rw [this, List.getElem?_cons_succ]
      exact h2
theorem calls {P : Program} {f : FuncId} {fn : Func} {c : Code} {vs : List Value} {w : World} {R : Ending → World → Prop}
    (n : Nat) (hf : P.funcs[f]? = some fn) (hb : fn.body = some c) (hnt : fn.ntmps = n) (hn : Nat.ble vs.length n = true)
    (h : CW P n c (Fin P n fn R) (args0 vs 0) (fun x => x = w)) : Calls P f vs.toArray w R := by
  subst hnt
  refine calls_of_wp hf hb (wp_mono (h w rfl _ ?_) ?_)
  · have hn' := Nat.le_of_ble_eq_true hn
    refine ⟨by simp; omega, rfl, fun t v hv => ?_⟩
    obtain ⟨_, hv⟩ := look_args0 vs 0 t v hv
    have ht : t < vs.length := by
      have := (List.getElem?_eq_some_iff.1 (by simpa using hv)).1
      exact this
    simp only [Nat.sub_zero] at hv
    rw [Array.getElem?_append_left (by simpa using ht)]
    simpa using hv
  · intro e a w ⟨l, hl, hq⟩
    cases e with
    | normal => obtain ⟨v, h1, h2⟩ := hq a hl; exact ⟨hl.nod, v, h1, h2⟩
    | ret => obtain ⟨v, h1, h2⟩ := hq a hl; exact ⟨hl.nod, v, h1, h2⟩
    | exit _ => exact hq.elim
    | goto _ => exact hq.elim
    | panic _ => exact hq.elim
    | outgrown => exact hq.elim
end Go.Proofs.Ytjmmikdbhhomiaa.Mq
