/- DRAWN REGIONS WITH A SPINE THAT MAY COME IN ONE OF MANY ORDERS (their first operations alone are free) -/
import Derived.Test.YtjmmikdbhhomiaaDrawS
namespace Go.Proofs.Ytjmmikdbhhomiaa.Mq
open Go Go.RowKit

def nodupB : List Nat → Bool
  | [] => true
  | x :: l => !l.any (Nat.beq x) && nodupB l
theorem nodupB_inj : ∀ (l : List Nat) (k k' i : Nat), nodupB l = true → l[k]? = some i → l[k']? = some i → k = k'
  | [], k, k', i, _, h, _ => by simp at h
  | x :: l, k, k', i, h, h1, h2 => by
    simp only [nodupB, Bool.and_eq_true, Bool.not_eq_true', List.any_eq_false] at h
    have hno : ∀ m : Nat, l[m]? ≠ some x := fun m hm => h.1 x (List.mem_of_getElem? hm) (by simp)
    cases k with
    | zero =>
      simp only [List.getElem?_cons_zero, Option.some.injEq] at h1
      subst h1
      cases k' with
      | zero => rfl
      | succ k' => exact absurd (by simpa using h2) (hno k')
    | succ k =>
      cases k' with
      | zero =>
        simp only [List.getElem?_cons_zero, Option.some.injEq] at h2
        subst h2
        exact absurd (by simpa using h1) (hno k)
      | succ k' => rw [nodupB_inj l k k' i h.2 (by simpa using h1) (by simpa using h2)]
def opsOf (os : List Oper) (sp : List Nat) : List Oper := sp.map (fun i => os.getD i default)
def isSp (qs : List Bool) (i : Nat) : Bool := match qs[i]? with
  | some q => !q
  | none => false
theorem isSp_iff {qs : List Bool} {i : Nat} : isSp qs i = true ↔ qs[i]? = some false := by
  unfold isSp
  cases qs[i]? with
  | none => simp
  | some q => cases q <;> simp
def chkSp (soft : Nat) (qs : List Bool) (ops : List Oper) (sp : List Nat) : Bool :=
  sp.all (isSp qs) && ((List.range qs.length).all fun i => !isSp qs i || sp.any (Nat.beq i)) && nodupB sp && chain ops sp.tail &&
  (match sp[soft]? with
    | none => true
    | some h => (List.range qs.length).all fun q => match qs[q]? with
      | some true => (aheadOf ops h h).any (Nat.beq q)
      | _ => true)
def headIs (i : Nat) : List Nat → Bool
  | x :: _ => Nat.beq x i
  | [] => false
def chkT (n soft : Nat) (qs : List Bool) (sps : List (List Nat)) (ops : List Oper) : Bool :=
  Nat.beq qs.length ops.length &&
  ((List.range ops.length).all fun i => match ops[i]? with
    | some o => chkOpS n qs ops i o
    | none => true) &&
  sps.all (chkSp soft qs ops) &&
  ((List.range qs.length).all fun i => !isSp qs i || sps.any (headIs i) || (List.range qs.length).any (fun m => isSp qs m && edgeAt ops i m))
theorem chkSp_mem {soft : Nat} {qs : List Bool} {ops : List Oper} {sp : List Nat} (h : chkSp soft qs ops sp = true) {i : Nat} : i ∈ sp ↔ qs[i]? = some false := by
  unfold chkSp at h
  simp only [Bool.and_eq_true] at h
  obtain ⟨⟨⟨⟨h1, h2⟩, _⟩, _⟩, _⟩ := h
  constructor
  · intro hi
    exact isSp_iff.1 (List.all_eq_true.1 h1 i hi)
  · intro hi
    have := List.all_eq_true.1 h2 i (by simpa using (List.getElem?_eq_some_iff.1 hi).1)
    rw [isSp_iff.2 hi] at this
    simp only [Bool.not_true, Bool.false_or, List.any_eq_true] at this
    obtain ⟨x, hx, he⟩ := this
    rw [Nat.eq_of_beq_eq_true he]
    exact hx
theorem chain_tail {ops : List Oper} {sp : List Nat} {k i j : Nat} (h : chain ops sp.tail = true) (h1 : sp[k + 1]? = some i) (h2 : sp[k + 2]? = some j) : edgeAt ops j i = true := by
  cases sp with
  | nil => simp at h1
  | cons x sp => exact chain_get sp k i j h (by simpa using h1) (by simpa using h2)

theorem CW.drawT {P : Program} {n : Nat} {Q : Post} {l : Fr} {H : World → Prop} {id : Nat} {os : List Oper} (qs : List Bool) (sp0 : List Nat) (sps : List (List Nat)) (soft : Nat) (HB : World → Prop) (hm : P.follows .mixedOrders = true) (hchk : chkT n soft qs (sp0 :: sps) os = true)
    (hH : ∀ w, H w → H w.drew) (hHB : ∀ w, H w → HB w) (hnp : NoP Q)
    (h : QuW P n os.toArray HB (fun lq => ∀ sp ∈ sp0 :: sps, SpW P n os.toArray HB Q soft (opsOf os sp) lq H) (qs.zip os) l) : CW P n (.region id os.toArray true) Q l H := by
  intro w hw a ha
  obtain ⟨vals, hl, hsp, hall⟩ := h.out
  unfold chkT at hchk
  simp only [Bool.and_eq_true] at hchk
  obtain ⟨⟨⟨hq0, hck0⟩, hcsp⟩, hfree⟩ := hchk
  have hcsp' : ∀ sp ∈ sp0 :: sps, chkSp soft qs os sp = true := fun sp h => List.all_eq_true.1 hcsp sp h
  have hq : qs.length = os.length := Nat.eq_of_beq_eq_true hq0
  have hlz : (qs.zip os).length = os.length := by simp; omega
  rw [hlz] at hl hsp
  have hck : ∀ (i : Nat) (o : Oper), os[i]? = some o → chkOpS n qs os i o = true := by
    intro i o ho
    rw [List.all_eq_true] at hck0
    have hlt := (List.getElem?_eq_some_iff.1 ho).1
    have := hck0 i (by simpa using hlt)
    rwa [ho] at this
  have hpart : ∀ (i : Nat) (o : Oper), os[i]? = some o → (∀ d, o.dst = some d → d < n ∧ writer os d = some i) ∧ (qs[i]? = some true → ∃ d, o.dst = some d) ∧ (∀ t ∈ o.looksAt os.toArray, seesOk os i o t = true) ∧
      (qs[i]? = some true → ∀ t ∈ o.looksAt os.toArray, ∀ j, writer os t = some j → qs[j]? = some true ∨ i < j) ∧ (qs[i]? = some false → ∀ t ∈ o.looksAt os.toArray, ∀ j, writer os t = some j → qs[j]? = some true → j < i) ∧
      (∀ e ∈ o.after, Region.binds .any e = true → e.on < i) ∧ (∀ cs b, o.op ≠ .select cs b) := by
    intro i o ho
    have := hck i o ho
    unfold chkOpS at this
    simp only [Bool.and_eq_true] at this
    obtain ⟨⟨⟨⟨h1, h2⟩, h3⟩, h4⟩, h5⟩ := this
    refine ⟨fun d hd => ?_, fun hqi => ?_, fun t ht => List.all_eq_true.1 h2 t ht, fun hqi t ht j hj => ?_, fun hqi t ht j hj hqj => ?_, fun e he hb => ?_, fun cs b hs => by rw [hs] at h5; cases h5⟩
    · rw [hd] at h1
      simp only [Bool.and_eq_true] at h1
      refine ⟨Nat.le_of_ble_eq_true h1.1, ?_⟩
      cases hwd : writer os d with
      | none => rw [hwd] at h1; cases h1.2
      | some j => rw [hwd] at h1; rw [Nat.eq_of_beq_eq_true h1.2]
    · cases hd : o.dst with
      | some d => exact ⟨d, rfl⟩
      | none => rw [hd, hqi] at h1; cases h1
    · rw [hqi] at h3
      have := List.all_eq_true.1 h3 t ht
      rw [hj] at this
      simp only at this
      cases hqj : qs[j]? with
      | none => rw [hqj] at this; exact .inr (Nat.le_of_ble_eq_true this)
      | some b =>
        cases b with
        | true => exact .inl rfl
        | false => rw [hqj] at this; exact .inr (Nat.le_of_ble_eq_true this)
    · rw [hqi] at h3
      have := List.all_eq_true.1 h3 t ht
      rw [hj] at this
      simp only [hqj] at this
      exact Nat.le_of_ble_eq_true this
    · have := Array.all_eq_true_iff_forall_mem.1 h4 e he
      simp only [Bool.or_eq_true, Bool.not_eq_true', hb] at this
      rcases this with this | this
      · cases this
      · exact Nat.le_of_ble_eq_true this
  have hu : ∀ (i : Nat) (o : Oper) (d : Nat), os[i]? = some o → o.dst = some d → writer os d = some i := fun i o d ho hd => ((hpart i o ho).1 d hd).2
  have hdst : ∀ (j : Nat) (o : Oper), os[j]? = some o → qs[j]? = some true → ∃ d, o.dst = some d := fun j o ho hqj => (hpart j o ho).2.1 hqj
  have hlook := fun t => look_qfr (vals := vals) hl hq hu l t hdst
  -- every slot that the region writes is written by an operation of it
  have hwr : ∀ t j, writer os t = some j → ∃ o, os[j]? = some o ∧ o.dst = some t := by
    intro t j hwt
    obtain ⟨x, hx, hp⟩ := findIdx?_some_get hwt
    refine ⟨x, hx, ?_⟩
    cases hd : x.dst with
    | none => rw [hd] at hp; cases hp
    | some d => rw [hd] at hp; rw [Nat.eq_of_beq_eq_true hp]
  let qt : Nat → Prop := fun j => qs[j]? = some true
  let lookD : (Nat → Bool) → Nat → Option Value := fun D t => match writer os t with
    | some j => if D j = true then (if qs[j]? = some true then vals[j]? else none) else look l t
    | none => look l t
  let S : (Nat → Bool) → Act → World → Prop := fun D a w => ∃ (sp : List Nat) (_ : sp ∈ sp0 :: sps) (j : Nat) (b : Act),
    (∀ k i, sp[k]? = some i → (D i = true ↔ k < j)) ∧ a.tmps.size = n ∧ b.tmps.size = n ∧ a.defers = b.defers ∧
    (∀ t, (∃ q, writer os t = some q ∧ qs[q]? = some true ∧ D q = false) ∨ a.tmps[t]? = b.tmps[t]?) ∧
    (∀ (q : Nat) (o : Oper) (d : Nat), qs[q]? = some true → os[q]? = some o → o.dst = some d → b.tmps[d]? = vals[q]?) ∧
    (∀ t v, lookD D t = some v → a.tmps[t]? = some v) ∧
    (∀ (j : Nat) (o : Oper), os[j]? = some o → D j = true → ∀ e ∈ o.after, Region.binds .any e = true → D e.on = true) ∧
    ((∃ q, qs[q]? = some true ∧ D q = false) → HB w) ∧ (∀ sp' ∈ sp0 :: sps, (j = 0 ∨ sp' = sp) → Ph P n os.toArray HB Q (soft - j) ((opsOf os sp').drop j) b w)
  refine wp_region_any hm ?_
  refine any_of (P := P) (ops := os.toArray) (Q := On n Q) S ?_ ?_ ?_ _ _ a _ (by simp) (by simp) ?_
  · rintro D i o a w ho hDi hpre ⟨sp, hspm, j, b, hspD, hsa, hsb, hdf, hrel, hbq, hval, hcl, hhb, hph⟩
    have ho' : os[i]? = some o := by simpa using ho
    have hio := (List.getElem?_eq_some_iff.1 ho').1
    obtain ⟨hd1, _, hsee, hqsee, hspsee, hbk, hnsel⟩ := hpart i o ho'
    have hqi : qs[i]? = some (qs[i]'(by omega)) := List.getElem?_eq_getElem _
    -- whatever i is: the closure goes on
    have hcl' : ∀ (j : Nat) (o' : Oper), os[j]? = some o' → (D j || j == i) = true → ∀ e ∈ o'.after, Region.binds .any e = true → (D e.on || e.on == i) = true := by
      intro j' o' ho2 hDj e he hbd
      simp only [Bool.or_eq_true, beq_iff_eq] at hDj ⊢
      rcases hDj with hDj | rfl
      · exact .inl (hcl j' o' ho2 hDj e he hbd)
      · rw [ho'] at ho2
        simp only [Option.some.injEq] at ho2
        subst ho2
        exact .inl (hpre e he hbd)
    unfold wpOp
    rw [ho]
    simp only
    cases hb : qs[i]'(by omega) with
    | true =>
      -- a quiet one
      rw [hb] at hqi
      obtain ⟨d, v, hd, hv, hrw⟩ := hall i o (by rw [List.getElem?_zip_eq_some]; exact ⟨hqi, ho'⟩)
      obtain ⟨hdn, hwd⟩ := hd1 d hd
      have hHBw : HB w := hhb ⟨i, hqi, hDi⟩
      let fi : Fr := qfr (qs.zip os) vals i ++ l
      have hfi : ∀ t, look fi t = match writer os t with
        | some j => if j < i ∧ qs[j]? = some true then vals[j]? else look l t
        | none => look l t := fun t => hlook t i (by omega)
      have hagree : ∀ (t : Nat), t ∈ o.looksAt os.toArray → ∀ u, look fi t = some u → a.tmps[t]? = some u := by
        intro t ht u hu'
        have hs := hsee t ht
        rw [hfi] at hu'
        refine hval t u ?_
        show (match writer os t with
          | some j => if D j = true then (if qs[j]? = some true then vals[j]? else none) else look l t
          | none => look l t) = some u
        unfold seesOk at hs
        cases hwt : writer os t with
        | none => rw [hwt] at hu'; exact hu'
        | some j' =>
          rw [hwt] at hs hu'
          simp only at hs hu' ⊢
          cases hb1 : Nat.blt j' i with
          | true =>
            rw [hb1] at hs
            have hji : j' < i := Nat.le_of_ble_eq_true hb1
            obtain ⟨e, he, hbd, hej⟩ := edgeOn_mem hs
            have hDj := hpre e he hbd
            rw [hej] at hDj
            rcases hqsee hqi t ht j' hwt with hqj | hlt
            · rw [if_pos ⟨hji, hqj⟩] at hu'
              rw [if_pos hDj, if_pos hqj]; exact hu'
            · omega
          | false =>
            rw [hb1] at hs
            have hnji : ¬ j' < i := fun hlt => by
              have : Nat.blt j' i = true := Nat.ble_eq_true_of_le hlt
              rw [this] at hb1; cases hb1
            rw [if_neg (fun h => hnji h.1)] at hu'
            cases hb2 : Nat.blt i j' with
            | true =>
              rw [hb2] at hs
              cases hoj : os[j']? with
              | none => rw [hoj] at hs; cases hs
              | some oj =>
                rw [hoj] at hs
                obtain ⟨e, he, hbd, hei⟩ := edgeOn_mem hs
                have hDj : ¬ D j' = true := fun hDj => by
                  have := hcl j' oj hoj hDj e he hbd
                  rw [hei, hDi] at this; cases this
                rw [if_neg hDj]; exact hu'
            | false => rw [hb2] at hs; cases hs
      let a1 : Act := ⟨Array.ofFn (n := n) (fun t => (look fi t.val).getD (a.tmps.getD t.val undef)), []⟩
      have hlt_fi : ∀ (t : Nat) u, look fi t = some u → t < n := by
        intro t u hu'
        rw [hfi] at hu'
        cases hwt : writer os t with
        | none => rw [hwt] at hu'; exact look_some_lt ha hu'
        | some j' =>
          obtain ⟨x, hx, hxd⟩ := hwr t j' hwt
          exact ((hpart j' x hx).1 t hxd).1
      have hag1 : Agr n fi a1 := by
        refine ⟨by simp [a1], rfl, fun t u hu' => ?_⟩
        have := hlt_fi t u hu'
        simp [a1, this, hu']
      have hsame : ∀ (t : Nat), t ∈ o.looksAt os.toArray → a1.tmps[t]? = a.tmps[t]? := by
        intro t ht
        by_cases htn : t < n
        · have ha1 : a1.tmps[t]? = some ((look fi t).getD (a.tmps.getD t undef)) := by simp [a1, htn]
          rw [ha1]
          cases hlk : look fi t with
          | some u => rw [hagree t ht u hlk]; rfl
          | none =>
            simp only [Option.getD_none, Array.getD_eq_getD_getElem?]
            rw [Array.getElem?_eq_getElem (by omega)]
            rfl
        · rw [Array.getElem?_eq_none (by simp [a1]; omega), Array.getElem?_eq_none (by omega)]
      have heval : ∀ x ∈ o.op.operands, a1.eval x = a.eval x := by
        intro x hx
        cases x with
        | tmp t =>
          have ht : t ∈ o.looksAt os.toArray := by
            unfold Oper.looksAt
            refine List.mem_append_left _ (List.mem_filterMap.2 ⟨.tmp t, by simpa using hx, rfl⟩)
          simp only [Act.eval, Array.getD_eq_getD_getElem?, hsame t ht]
        | _ => rfl
      have hexec := execOp_congr o hnsel heval
      have hwant : Region.wanted o (yielded os.toArray a1.tmps) = Region.wanted o (yielded os.toArray a.tmps) := by
        unfold Region.wanted
        cases hg : o.guard with
        | none => rfl
        | some jw =>
          obtain ⟨j', want⟩ := jw
          simp only
          congr 1
          unfold yielded
          cases hdj : (os.toArray[j']?).bind (·.dst) with
          | none => rfl
          | some t =>
            have ht : t ∈ o.looksAt os.toArray := by
              unfold Oper.looksAt
              refine List.mem_append_right _ ?_
              simp only [hg, hdj]
              simp
            simp only [Option.bind_some, hsame t ht]
      have hwp := hrw w hHBw w rfl a1 hag1
      have hnext : ∀ v' w', On n (Jn ((d, v) :: fi) (fun x => x = w)) .normal (a1.put o.dst v') w' → S (fun j => D j || j == i) (a.put o.dst v') w' := by
        rintro v' w' ⟨l1, hl1, hs1, rfl⟩
        have hv' : v' = v := by
          have h1 := hl1.val d v (hs1 d v (by simp [look]))
          rw [hd] at h1
          simp only [Act.put] at h1
          rw [Array.getElem?_setIfInBounds] at h1
          simp [a1, hdn] at h1
          exact h1
        subst hv'
        have hni : ∀ k, sp[k]? ≠ some i := fun k hk => by
          have := (chkSp_mem (hcsp' sp hspm)).1 (List.mem_of_getElem? hk)
          rw [hqi] at this; cases this
        refine ⟨sp, hspm, j, b, fun k i' hk => ?_, by rw [hd]; simp [Act.put, hsa], hsb, by rw [hd]; exact hdf, fun t => ?_, hbq, fun t u htu => ?_, hcl', fun ⟨q, hq1, hq2⟩ => hhb ⟨q, hq1, ?_⟩, hph⟩
        · have hne : i' ≠ i := fun e => hni k (e ▸ hk)
          have : (i' == i) = false := by simpa using hne
          simp only [this, Bool.or_false]
          exact hspD k i' hk
        · rw [hd]
          simp only [Act.put]
          by_cases htd : d = t
          · subst htd
            right
            rw [hbq i o d hqi ho' hd, hv]
            simp [hsa, hdn]
          · rw [Array.getElem?_setIfInBounds_ne htd]
            rcases hrel t with ⟨q, h1, h2, h3⟩ | h1
            · by_cases hqe : q = i
              · subst hqe
                obtain ⟨x, hx, hxd⟩ := hwr t q h1
                rw [ho'] at hx
                simp only [Option.some.injEq] at hx
                subst hx
                rw [hd] at hxd
                simp only [Option.some.injEq] at hxd
                exact absurd hxd htd
              · exact .inl ⟨q, h1, h2, by simp [h3, hqe]⟩
            · exact .inr h1
        · rw [hd]
          simp only [Act.put]
          by_cases htd : d = t
          · subst htd
            have : lookD (fun j => D j || j == i) d = some v' := by
              show (match writer os d with
                | some j => if (D j || j == i) = true then (if qs[j]? = some true then vals[j]? else none) else look l d
                | none => look l d) = some v'
              rw [hwd]; simp [hv, hqi]
            rw [this] at htu
            simp only [Option.some.injEq] at htu
            subst htu
            simp [hsa, hdn]
          · rw [Array.getElem?_setIfInBounds_ne htd]
            refine hval t u ?_
            rw [← htu]
            show (match writer os t with
                | some j => if D j = true then (if qs[j]? = some true then vals[j]? else none) else look l t
                | none => look l t) = (match writer os t with
                | some j => if (D j || j == i) = true then (if qs[j]? = some true then vals[j]? else none) else look l t
                | none => look l t)
            cases hwt : writer os t with
            | none => rfl
            | some j' =>
              have hji : j' ≠ i := by
                rintro rfl
                obtain ⟨x, hx, hxd⟩ := hwr t j' hwt
                rw [ho'] at hx
                simp only [Option.some.injEq] at hx
                subst hx
                rw [hd] at hxd
                simp only [Option.some.injEq] at hxd
                exact htd hxd
              have : (j' == i) = false := by simpa using hji
              simp [this]
        · simp only [Bool.or_eq_false_iff] at hq2
          exact hq2.1
      unfold wpList at hwp
      split
      · rename_i hwn
        rw [hwant, if_pos hwn] at hwp
        rcases hwp with hwp | ⟨_, a0, w0, l0, _, hq0⟩
        · refine .inl (wp_transfer hexec (fun v' w' hk => hnext v' w' hk) ?_ ?_ ?_ hwp)
          · rintro d0 v0 w0 ⟨l0, hl0, _⟩
            have := hl0.nod
            rw [hd] at this
            simp [Act.put] at this
          · rintro c w0 ⟨l0, _, hq0⟩
            exact hq0.elim
          · rintro ⟨a0, w0, l0, _, hq0⟩
            exact hq0.elim
        · exact hq0.elim
      · rename_i hwn
        rw [hwant, if_neg hwn] at hwp
        exact hnext _ _ hwp
    | false =>
      -- one of the spine: it is the next of it
      rw [hb] at hqi
      obtain ⟨sp, hspm, k, hspD, hk, hph0⟩ : ∃ sp, ∃ (_ : sp ∈ sp0 :: sps) (k : Nat), (∀ k' i, sp[k']? = some i → (D i = true ↔ k' < k)) ∧ sp[k]? = some i ∧ (∀ sp' ∈ sp0 :: sps, (k = 0 ∨ sp' = sp) → Ph P n os.toArray HB Q (soft - k) ((opsOf os sp').drop k) b w) := by
        by_cases hj0 : j = 0
        · subst hj0
          have hDsp : ∀ m, qs[m]? = some false → D m = false := by
            intro m hm
            have hmem := (chkSp_mem (hcsp' sp hspm)).2 hm
            obtain ⟨k, hk, he⟩ := List.getElem_of_mem hmem
            have := hspD k m (by rw [List.getElem?_eq_getElem hk, he])
            cases hDm : D m with
            | false => rfl
            | true => exact absurd (this.1 hDm) (by omega)
          have hf := List.all_eq_true.1 hfree i (by simpa [hq] using hio)
          rw [isSp_iff.2 hqi] at hf
          simp only [Bool.not_true, Bool.false_or, Bool.or_eq_true, List.any_eq_true, Bool.and_eq_true] at hf
          rcases hf with ⟨sp', hsp', hh⟩ | ⟨m, _, hm1, hm2⟩
          · refine ⟨sp', hsp', 0, fun k' i' hk' => ?_, ?_, fun sp2 h2 _ => hph sp2 h2 (.inl rfl)⟩
            · have := hDsp i' ((chkSp_mem (hcsp' sp' hsp')).1 (List.mem_of_getElem? hk'))
              rw [this]; simp
            · cases sp' with
              | nil => cases hh
              | cons x l =>
                have := Nat.eq_of_beq_eq_true hh
                simp [this]
          · exfalso
            unfold edgeAt at hm2
            rw [ho'] at hm2
            obtain ⟨e, he, hbd, hej⟩ := edgeOn_mem hm2
            have hDp := hpre e he hbd
            rw [hej, hDsp m (isSp_iff.1 hm1)] at hDp
            cases hDp
        · obtain ⟨k, hk⟩ : ∃ k, sp[k]? = some i := by
            have := (chkSp_mem (hcsp' sp hspm)).2 hqi
            obtain ⟨k, hk, he⟩ := List.getElem_of_mem this
            exact ⟨k, by rw [List.getElem?_eq_getElem hk, he]⟩
          have hkj : k = j := by
            have h1 : ¬ k < j := fun hlt => by
              have := (hspD k i hk).2 hlt
              rw [hDi] at this; cases this
            by_cases h2 : k ≤ 1
            · omega
            · obtain ⟨k', rfl⟩ : ∃ k', k = k' + 2 := ⟨k - 2, by omega⟩
              have hk' : k' + 1 < sp.length := by
                have := (List.getElem?_eq_some_iff.1 hk).1
                omega
              have hct : chain os sp.tail = true := by
                have := hcsp' sp hspm
                unfold chkSp at this
                simp only [Bool.and_eq_true] at this
                exact this.1.2
              have hg := chain_tail hct (List.getElem?_eq_getElem hk') hk
              unfold edgeAt at hg
              rw [ho'] at hg
              obtain ⟨e, he, hbd, hej⟩ := edgeOn_mem hg
              have hDp := hpre e he hbd
              rw [hej] at hDp
              have := (hspD (k' + 1) _ (List.getElem?_eq_getElem hk')).1 hDp
              omega
          subst hkj
          exact ⟨sp, hspm, k, hspD, hk, hph⟩
      have hph := hph0 sp hspm (.inr rfl)
      clear hph0
      have hdrop : (opsOf os sp).drop k = o :: (opsOf os sp).drop (k + 1) := by
        have hks : k < (opsOf os sp).length := by
          unfold opsOf
          rw [List.length_map]
          exact (List.getElem?_eq_some_iff.1 hk).1
        rw [List.drop_eq_getElem_cons hks]
        congr 1
        have : (opsOf os sp)[k]? = some o := by
          unfold opsOf
          rw [List.getElem?_map, hk]
          simp [List.getD, ho']
        rw [List.getElem?_eq_getElem hks] at this
        exact Option.some.inj this
      rw [hdrop] at hph
      have hsame : ∀ (t : Nat), t ∈ o.looksAt os.toArray → b.tmps[t]? = a.tmps[t]? := by
        intro t ht
        rcases hrel t with ⟨q, h1, h2, h3⟩ | h1
        · have hqlt := hspsee hqi t ht q h1 h2
          have hs := hsee t ht
          unfold seesOk at hs
          rw [h1] at hs
          simp only at hs
          rw [show Nat.blt q i = true from Nat.ble_eq_true_of_le hqlt] at hs
          obtain ⟨e, he, hbd, hej⟩ := edgeOn_mem hs
          have := hpre e he hbd
          rw [hej, h3] at this; cases this
        · exact h1.symm
      have heval : ∀ x ∈ o.op.operands, b.eval x = a.eval x := by
        intro x hx
        cases x with
        | tmp t =>
          have ht : t ∈ o.looksAt os.toArray := by
            unfold Oper.looksAt
            refine List.mem_append_left _ (List.mem_filterMap.2 ⟨.tmp t, by simpa using hx, rfl⟩)
          simp only [Act.eval, Array.getD_eq_getD_getElem?, hsame t ht]
        | _ => rfl
      have hexec := execOp_congr o hnsel heval
      have hwant : Region.wanted o (yielded os.toArray b.tmps) = Region.wanted o (yielded os.toArray a.tmps) := by
        unfold Region.wanted
        cases hg : o.guard with
        | none => rfl
        | some jw =>
          obtain ⟨j', want⟩ := jw
          simp only
          congr 1
          unfold yielded
          cases hdj : (os.toArray[j']?).bind (·.dst) with
          | none => rfl
          | some t =>
            have ht : t ∈ o.looksAt os.toArray := by
              unfold Oper.looksAt
              refine List.mem_append_right _ ?_
              simp only [hg, hdj]
              simp
            simp only [Option.bind_some, hsame t ht]
      have hcs0 := hcsp' sp hspm
      unfold chkSp at hcs0
      simp only [Bool.and_eq_true] at hcs0
      have hnd := hcs0.1.1.2
      have hhard := hcs0.2
      -- all that the next state wants but for its phase
      have hnext : ∀ df v' w', ((∃ q, qs[q]? = some true ∧ (D q || q == i) = false) → HB w') → Ph P n os.toArray HB Q (soft - (k + 1)) ((opsOf os sp).drop (k + 1)) ({ b with defers := df }.put o.dst v') w' → S (fun j => D j || j == i) ({ a with defers := df }.put o.dst v') w' := by
        intro df v' w' hhb' hph'
        refine ⟨sp, hspm, k + 1, { b with defers := df }.put o.dst v', fun k' i' hk' => ?_, ?_, ?_, ?_, fun t => ?_, fun q oq dq hq1 hq2 hq3 => ?_, fun t u htu => ?_, hcl', hhb', fun sp' _ h0 => by
          rcases h0 with h0 | rfl
          · omega
          · exact hph'⟩
        · simp only [Bool.or_eq_true, beq_iff_eq]
          constructor
          · rintro (h | h)
            · have := (hspD k' i' hk').1 h; omega
            · subst h
              have := nodupB_inj sp _ _ _ hnd hk' hk
              omega
          · intro h
            by_cases hkk : k' = k
            · subst hkk
              rw [hk] at hk'
              exact .inr (Option.some.inj hk').symm
            · exact .inl ((hspD k' i' hk').2 (by omega))
        · cases o.dst <;> simp [Act.put, hsa]
        · cases o.dst <;> simp [Act.put, hsb]
        · cases o.dst <;> simp [Act.put]
        · cases hd : o.dst with
          | none =>
            simp only [Act.put]
            rcases hrel t with ⟨q, h1, h2, h3⟩ | h1
            · refine .inl ⟨q, h1, h2, ?_⟩
              have hqe : q ≠ i := fun e => by rw [e, hqi] at h2; cases h2
              simp [h3, hqe]
            · exact .inr h1
          | some d =>
            simp only [Act.put]
            by_cases htd : d = t
            · subst htd
              right
              have hdn := (hd1 d hd).1
              simp [hsa, hsb, hdn]
            · rw [Array.getElem?_setIfInBounds_ne htd, Array.getElem?_setIfInBounds_ne htd]
              rcases hrel t with ⟨q, h1, h2, h3⟩ | h1
              · refine .inl ⟨q, h1, h2, ?_⟩
                have hqe : q ≠ i := fun e => by rw [e, hqi] at h2; cases h2
                simp [h3, hqe]
              · exact .inr h1
        · cases hd : o.dst with
          | none => exact hbq q oq dq hq1 hq2 hq3
          | some d =>
            simp only [Act.put]
            have hne : d ≠ dq := by
              rintro rfl
              have h1 := (hd1 d hd).2
              have h2 := hu q oq d hq2 hq3
              rw [h1] at h2
              simp only [Option.some.injEq] at h2
              rw [← h2, hqi] at hq1; cases hq1
            rw [Array.getElem?_setIfInBounds_ne hne]
            exact hbq q oq dq hq1 hq2 hq3
        · cases hd : o.dst with
          | none =>
            simp only [Act.put]
            refine hval t u ?_
            rw [← htu]
            show (match writer os t with
                | some j => if D j = true then (if qs[j]? = some true then vals[j]? else none) else look l t
                | none => look l t) = (match writer os t with
                | some j => if (D j || j == i) = true then (if qs[j]? = some true then vals[j]? else none) else look l t
                | none => look l t)
            cases hwt : writer os t with
            | none => rfl
            | some j' =>
              have hji : j' ≠ i := by
                rintro rfl
                obtain ⟨x, hx, hxd⟩ := hwr t j' hwt
                rw [ho'] at hx
                simp only [Option.some.injEq] at hx
                subst hx
                rw [hd] at hxd
                cases hxd
              have : (j' == i) = false := by simpa using hji
              simp [this]
          | some d =>
            simp only [Act.put]
            have htu' : (match writer os t with
                | some j => if (D j || j == i) = true then (if qs[j]? = some true then vals[j]? else none) else look l t
                | none => look l t) = some u := htu
            by_cases htd : d = t
            · subst htd
              rw [(hd1 d hd).2] at htu'
              simp [hqi] at htu'
            · rw [Array.getElem?_setIfInBounds_ne htd]
              refine hval t u ?_
              rw [← htu']
              show (match writer os t with
                | some j => if D j = true then (if qs[j]? = some true then vals[j]? else none) else look l t
                | none => look l t) = _
              cases hwt : writer os t with
              | none => rfl
              | some j' =>
                have hji : j' ≠ i := by
                  rintro rfl
                  obtain ⟨x, hx, hxd⟩ := hwr t j' hwt
                  rw [ho'] at hx
                  simp only [Option.some.injEq] at hx
                  subst hx
                  rw [hd] at hxd
                  simp only [Option.some.injEq] at hxd
                  exact htd hxd
                have : (j' == i) = false := by simpa using hji
                simp [this]
      -- where the next one is hard, all quiet ones are done
      have hdone : soft ≤ k → ¬ ∃ q, qs[q]? = some true ∧ D q = false := by
        rintro hsk ⟨q, hq1, hq2⟩
        have hks : soft < sp.length := Nat.lt_of_le_of_lt hsk (List.getElem?_eq_some_iff.1 hk).1
        rw [List.getElem?_eq_getElem hks] at hhard
        simp only at hhard
        rw [List.all_eq_true] at hhard
        have hqlt : q < qs.length := (List.getElem?_eq_some_iff.1 hq1).1
        have h1 := hhard q (by simpa using hqlt)
        rw [hq1] at h1
        simp only [List.any_eq_true] at h1
        obtain ⟨q', hq', he⟩ := h1
        have he' := Nat.eq_of_beq_eq_true he
        subst he'
        have hall2 : ∀ (o : Oper), os[sp[soft]]? = some o → ∀ e ∈ o.after, Region.binds .any e = true → D e.on = true := by
          intro o2 ho2 e he2 hbd
          by_cases hsk2 : soft = k
          · subst hsk2
            rw [List.getElem?_eq_getElem hks] at hk
            simp only [Option.some.injEq] at hk
            rw [hk, ho'] at ho2
            simp only [Option.some.injEq] at ho2
            subst ho2
            exact hpre e he2 hbd
          · exact hcl _ o2 ho2 ((hspD soft _ (List.getElem?_eq_getElem hks)).2 (by omega)) e he2 hbd
        have := aheadOf_done hcl hall2 _ q hq'
        rw [hq2] at this; cases this
      have hdone' : soft ≤ k → ¬ ∃ q, qs[q]? = some true ∧ (D q || q == i) = false := by
        rintro hsk ⟨q, hq1, hq2⟩
        simp only [Bool.or_eq_false_iff] at hq2
        exact hdone hsk ⟨q, hq1, hq2.1⟩
      -- the phases
      have hhardstep : soft ≤ k → wpList P os.toArray (On n Q) (o :: (opsOf os sp).drop (k + 1)) b w → (if Region.wanted o (yielded os.toArray a.tmps) then o.wp P a w (fun a' w' => S (fun j => D j || j == i) a' w') (On n Q) ∨ (o.asks P a w ∧ LetsOut (On n Q)) else S (fun j => D j || j == i) (a.put o.dst undef) w) := by
        intro hsk hwp
        unfold wpList at hwp
        rw [hwant] at hwp
        split at hwp
        · rename_i hwn
          rw [if_pos hwn]
          rcases hwp with hwp | ⟨_, hlo⟩
          · refine .inl (wp_transfer2 hexec hdf.symm (fun df v' w' hk2 => hnext df v' w' (fun hx => absurd hx (hdone' hsk)) (.inr ⟨by omega, hk2⟩)) (fun c w' => (hnp.on (a := b) (w := w')).1 c) (hnp.on (a := b) (w := w)).2 hwp)
          · exact absurd hlo (hnp.on (a := b) (w := w)).2
        · rename_i hwn
          rw [if_neg hwn]
          have := hnext b.defers undef w (fun hx => absurd hx (hdone' hsk)) (.inr ⟨by omega, hwp⟩)
          rw [← hdf] at this
          exact this
      rcases hph with ⟨l2, hl2, hsw⟩ | ⟨hk0, hwp⟩
      · cases hsf : soft - k with
        | zero =>
          rw [hsf] at hsw
          exact hhardstep (by omega) (hsw w rfl b hl2)
        | succ k2 =>
          rw [hsf] at hsw
          have hwp : wpList P os.toArray (On n (Sp1 (fun l' w' => HB w' ∧ SpW P n os.toArray HB Q k2 ((opsOf os sp).drop (k + 1)) l' (fun x => x = w')))) [o] b w := hsw w rfl b hl2
          have hk2 : soft - (k + 1) = k2 := by omega
          have huse : ∀ v' w', On n (Sp1 (fun l' w' => HB w' ∧ SpW P n os.toArray HB Q k2 ((opsOf os sp).drop (k + 1)) l' (fun x => x = w'))) .normal (b.put o.dst v') w' → S (fun j => D j || j == i) (a.put o.dst v') w' := by
            rintro v' w' ⟨l3, hl3, hHB3, hsw3⟩
            have := hnext b.defers v' w' (fun _ => hHB3) (.inl ⟨l3, hl3, by rw [hk2]; exact hsw3⟩)
            rw [← hdf] at this
            exact this
          unfold wpList at hwp
          rw [hwant] at hwp
          split at hwp
          · rename_i hwn
            rw [if_pos hwn]
            rcases hwp with hwp | ⟨_, a0, w0, l0, _, hq0⟩
            · refine .inl (wp_transfer hexec (fun v' w' hk2 => huse v' w' hk2) ?_ ?_ ?_ hwp)
              · rintro d0 v0 w0 ⟨l0, hl0, _⟩
                have := hl0.nod
                cases hd : o.dst <;> rw [hd] at this <;> simp [Act.put] at this
              · rintro c w0 ⟨l0, _, hq0⟩
                exact hq0.elim
              · rintro ⟨a0, w0, l0, _, hq0⟩
                exact hq0.elim
            · exact hq0.elim
          · rename_i hwn
            rw [if_neg hwn]
            exact huse _ _ hwp
      · exact hhardstep (by omega) hwp
  · rintro D a w hD ⟨sp, hspm, j, b, hspD, hsa, hsb, hdf, hrel, hbq, hval, hcl, hhb, hph⟩
    have hDall : ∀ i, i < os.length → D i = true := fun i hi => hD i (by simpa using hi)
    have hab : ∀ (t : Nat), a.tmps[t]? = b.tmps[t]? := by
      intro t
      rcases hrel t with ⟨q, h1, h2, h3⟩ | h1
      · have hqlt : q < qs.length := (List.getElem?_eq_some_iff.1 h2).1
        rw [hDall q (by omega)] at h3; cases h3
      · exact h1
    have hj : (opsOf os sp).drop j = [] := by
      apply List.drop_eq_nil_of_le
      unfold opsOf
      rw [List.length_map]
      rcases Nat.lt_or_ge j sp.length with h1 | h1
      · have hi := sp[j]'h1
        have h2 := (chkSp_mem (hcsp' sp hspm)).1 (List.getElem_mem h1)
        have hlt : sp[j] < qs.length := (List.getElem?_eq_some_iff.1 h2).1
        have := (hspD j _ (List.getElem?_eq_getElem h1)).1 (hDall _ (by omega))
        omega
      · exact h1
    have hph := hph sp hspm (.inr rfl)
    rw [hj] at hph
    have hagr : ∀ l2, Agr n l2 b → Agr n l2 a := fun l2 h2 => ⟨hsa, by rw [hdf]; exact h2.nod, fun t v hv => by rw [hab t]; exact h2.val t v hv⟩
    rcases hph with ⟨l2, hl2, hsw⟩ | ⟨_, hwp⟩
    · refine ⟨l2, hagr l2 hl2, ?_⟩
      cases hs : soft - j <;> rw [hs] at hsw <;> exact hsw w rfl
    · obtain ⟨l2, hl2, hq2⟩ := hwp
      exact ⟨l2, hagr l2 hl2, hq2⟩
  · intro i o ho e he hb
    obtain ⟨_, _, _, _, _, h3, _⟩ := hpart i o (by simpa using ho)
    exact h3 e he hb
  · have hf : ∀ j, (Array.replicate os.toArray.size false).getD j false = false := by
      intro j
      simp only [Array.getD_eq_getD_getElem?, Array.getElem?_replicate]
      split <;> rfl
    let b0 : Act := ⟨Array.ofFn (n := n) (fun t => match writer os t.val with
      | some q => if qs[q]? = some true then (vals[q]?).getD undef else a.tmps.getD t.val undef
      | none => a.tmps.getD t.val undef), a.defers⟩
    have hb0 : ∀ (t : Nat), t < n → b0.tmps[t]? = some (match writer os t with
      | some q => if qs[q]? = some true then (vals[q]?).getD undef else a.tmps.getD t undef
      | none => a.tmps.getD t undef) := by
      intro t ht
      simp [b0, ht]
    have hat : ∀ (t : Nat), t < n → a.tmps[t]? = some (a.tmps.getD t undef) := by
      intro t ht
      rw [Array.getD_eq_getD_getElem?, Array.getElem?_eq_getElem (by rw [ha.size]; exact ht)]
      rfl
    have hvq : ∀ (q : Nat), qs[q]? = some true → ∃ v, vals[q]? = some v := by
      intro q hq1
      have : q < qs.length := (List.getElem?_eq_some_iff.1 hq1).1
      exact ⟨vals[q]'(by omega), List.getElem?_eq_getElem _⟩
    refine ⟨sp0, List.mem_cons_self, 0, b0, fun k i hk => ⟨fun h => absurd ((hf i).symm.trans h) (by simp), fun h => absurd h (by omega)⟩, ha.size, by simp [b0], rfl, fun t => ?_, fun q o d hq1 hq2 hq3 => ?_, fun t u htu => ?_, fun j o _ hDj => absurd ((hf j).symm.trans hDj) (by simp), fun _ => hHB _ (hH w hw), ?_⟩
    · by_cases htn : t < n
      · cases hwt : writer os t with
        | none => right; rw [hb0 t htn, hwt, hat t htn]
        | some q =>
          by_cases hqq : qs[q]? = some true
          · exact .inl ⟨q, rfl, hqq, hf q⟩
          · right; rw [hb0 t htn, hwt, hat t htn]; simp [hqq]
      · right; rw [Array.getElem?_eq_none (by rw [ha.size]; omega), Array.getElem?_eq_none (by simp [b0]; omega)]
    · obtain ⟨hdn, hwd⟩ := (hpart q o hq2).1 d hq3
      obtain ⟨v, hv⟩ := hvq q hq1
      rw [hb0 d hdn, hwd]
      simp [hq1, hv]
    · refine ha.val t u ?_
      rw [← htu]
      show look l t = (match writer os t with
        | some j => if (Array.replicate os.toArray.size false).getD j false = true then (if qs[j]? = some true then vals[j]? else none) else look l t
        | none => look l t)
      cases writer os t with
      | none => rfl
      | some j => simp only [hf]; rfl
    · refine fun sp hspm _ => .inl ⟨_, ?_, SpW.sub _ _ (hsp sp hspm) (fun x hx => hx ▸ hH w hw)⟩
      refine ⟨by simp [b0], ha.nod, fun t u htu => ?_⟩
      have := hlook t os.length (Nat.le_refl _)
      rw [this] at htu
      cases hwt : writer os t with
      | none =>
        rw [hwt] at htu
        have htn := look_some_lt ha htu
        rw [hb0 t htn, hwt]
        have := ha.val t u htu
        rw [hat t htn] at this
        exact this
      | some q =>
        rw [hwt] at htu
        simp only at htu
        obtain ⟨x, hx, hxd⟩ := hwr t q hwt
        have htn := ((hpart q x hx).1 t hxd).1
        have hqlt := (List.getElem?_eq_some_iff.1 hx).1
        rw [hb0 t htn, hwt]
        by_cases hqq : qs[q]? = some true
        · rw [if_pos ⟨hqlt, hqq⟩] at htu
          simp [hqq, htu]
        · rw [if_neg (fun h => hqq h.2)] at htu
          have := ha.val t u htu
          rw [hat t htn] at this
          show some (if qs[q]? = some true then (vals[q]?).getD undef else a.tmps.getD t undef) = some u
          rw [if_neg hqq]
          exact this
theorem SH.swap {b : World} {S : List Nat} {x y : Chunk} {cs : List Chunk} {w : World} (h : SH b S (x :: y :: cs) w) : SH b S (y :: x :: cs) w := by
  have hm : ∀ k, k ∈ feet (y :: x :: cs) → k ∈ feet (x :: y :: cs) := fun k hk => by
    rw [feet_cons, feet_cons] at hk ⊢
    simp only [List.mem_append] at hk ⊢
    rcases hk with h | h | h
    · exact .inr (.inl h)
    · exact .inl h
    · exact .inr (.inr h)
  refine ⟨h.ext, ?_, fun c hc => h.all c ?_, fun k hk => h.cov k (hm k hk)⟩
  · have hn := h.nodup
    rw [feet_cons, feet_cons, ← List.append_assoc] at hn ⊢
    rw [List.nodup_append] at hn ⊢
    obtain ⟨h1, h2, h3⟩ := hn
    rw [List.nodup_append] at h1 ⊢
    obtain ⟨g1, g2, g3⟩ := h1
    refine ⟨⟨g2, g1, fun a ha b hb e => g3 b hb a ha e.symm⟩, h2, fun a ha => h3 a ?_⟩
    rcases List.mem_append.1 ha with h | h
    · exact List.mem_append.2 (.inr h)
    · exact List.mem_append.2 (.inl h)
  · simp only [List.mem_cons] at hc ⊢
    rcases hc with h | h | h
    · exact .inr (.inl h)
    · exact .inl h
    · exact .inr (.inr h)
/- a join whose frame is known but for an index -/
def JnI {ι : Type} (fr : ι → Fr) (Hi : ι → World → Prop) (ok : ι → Prop) : Post
  | .normal, l, w => ∃ i, ok i ∧ Sub l (fr i) ∧ Hi i w
  | _, _, _ => False
theorem NoP.jnI {ι : Type} {fr : ι → Fr} {Hi : ι → World → Prop} {ok : ι → Prop} : NoP (JnI fr Hi ok) := ⟨fun _ _ => ⟨fun _ h => h, fun h => h⟩⟩
theorem EX.jnI {ι : Type} {fr : ι → Fr} {Hi : ι → World → Prop} {ok : ι → Prop} {l : Fr} {H : World → Prop} (i : ι) (hok : ok i) (hs : Sub l (fr i)) (hH : ∀ w, H w → Hi i w) : EX (JnI fr Hi ok) .normal l H := fun w hw => ⟨i, hok, hs, hH w hw⟩
theorem CW.joinI {P : Program} {n : Nat} {Q : Post} {l : Fr} {H : World → Prop} {c : Code} {ι : Type} (fr : ι → Fr) (Hi : ι → World → Prop) (ok : ι → Prop) (h : CW P n c (JnI fr Hi ok) l H) (hQ : ∀ i, ok i → EX Q .normal (fr i) (Hi i)) : CW P n c Q l H := by
  intro w hw a ha
  refine wp_mono (h w hw a ha) ?_
  rintro e a w ⟨l1, hl1, hq⟩
  cases e with
  | normal =>
    obtain ⟨i, hok, hs, hH⟩ := hq
    exact ⟨fr i, hl1.sub hs, hQ i hok w hH⟩
  | _ => exact hq.elim
end Go.Proofs.Ytjmmikdbhhomiaa.Mq
