/- walk of the reference's Parse -/
import Derived.Test.YtjplfonmdjnplaaDoorPm4s
import Derived.Test.YtjplfonmdjnplaaDoorPmLaw
namespace Go.Proofs.YtjplfonmdjnplaaDoor.Mq
open Go Go.RowKit Go.Proofs

abbrev chL (A : Option Addr) (n c : Nat) (L : List Int) (v : Value) (ss : List SlV) : List Chunk := [own 3 1 (.slice A n c) n (EInt.all L), own 44 1 v (ss.length + 1) (ESl.all (ss ++ [(⟨A, n, c⟩ : SlV)]))]
/-- rows of groups, the last of which is being written -/
structure StL (w : World) (v : Value) (ss : List SlV) (A : Option Addr) (n c : Nat) (gs : List (List Int)) (L : List Int) (w' : World) : Prop where
  sh : SH w' (feet (chL A n c L v ss)) (chL A n c L v ss) w'
  ext : Ext [] w w'
  new : ∀ k ∈ feet (chL A n c L v ss), w.heap.size ≤ k
  len : ss.length = gs.length
  lenL : L.length = n
  nest : ∀ (k : Nat) (s : SlV) (g : List Int), ss[k]? = some s → gs[k]? = some g → Rd EInt w' (fun k => w.heap.size ≤ k ∧ k ∉ feet (chL A n c L v ss)) s.A s.n s.c g
theorem StL.later {w w1 wz : World} {v v' : Value} {ss : List SlV} {A A' : Option Addr} {n c n' c' : Nat} {gs : List (List Int)} {L L' : List Int} {S : List Nat} (hS : feet (chL A n c L v ss) = S) (h : StL w v ss A n c gs L w1)
    (hz : SH w1 S (chL A' n' c' L' v' ss) wz) (hl : L'.length = n') : StL w v' ss A' n' c' gs L' wz := by
  obtain ⟨h1, h2, h3, h4, h5, h6⟩ := h
  rw [hS] at h3 h6
  have e1 := h2.size
  have hnb : ∀ k, k ∈ feet (chL A' n' c' L' v' ss) → k ∈ S ∨ w1.heap.size ≤ k := fun k hk => by
    rcases Nat.lt_or_ge k w1.heap.size with h | h
    · exact .inl (hz.cov k hk h)
    · exact .inr h
  refine ⟨hz.rebase, h2.trans hz.ext (fun x hx hlt => absurd (h3 x hx) (by omega)), fun k hk => ?_, h4, hl, fun k s g hs hg => ?_⟩
  · rcases hnb k hk with h | h
    · exact h3 k h
    · omega
  · exact (((h6 k s g hs hg).strong (by decide)).ext hz.ext (fun k hk => hk.1.2)).weak (fun k hk => ⟨hk.1.1, fun hk2 => by
      rcases hnb k hk2 with h | h
      · exact hk.1.2 h
      · have := hk.2; omega⟩)
theorem StL.push {w w1 wz : World} {v v' : Value} {ss : List SlV} {A A' : Option Addr} {n c n' c' : Nat} {gs : List (List Int)} {L L' : List Int} {S : List Nat} (hS : feet (chL A n c L v ss) = S) (h : StL w v ss A n c gs L w1)
    (hz : SH w1 S (own 3 1 (.slice A n c) n (EInt.all L) :: chL A' n' c' L' v' (ss ++ [(⟨A, n, c⟩ : SlV)])) wz) (hl : L'.length = n') : StL w v' (ss ++ [(⟨A, n, c⟩ : SlV)]) A' n' c' (gs ++ [L]) L' wz := by
  obtain ⟨h1, h2, h3, h4, h5, h6⟩ := h
  rw [hS] at h3 h6
  have e1 := h2.size
  have hz2 := hz.rem Rem.head
  have hnb : ∀ k, k ∈ feet (chL A' n' c' L' v' (ss ++ [(⟨A, n, c⟩ : SlV)])) → k ∈ S ∨ w1.heap.size ≤ k := fun k hk => by
    rcases Nat.lt_or_ge k w1.heap.size with h | h
    · exact .inl (hz2.cov k hk h)
    · exact .inr h
  refine ⟨hz2.rebase, h2.trans hz2.ext (fun x hx hlt => absurd (h3 x hx) (by omega)), fun k hk => ?_, by simp [h4], hl, fun k s g hs hg => ?_⟩
  · rcases hnb k hk with h | h
    · exact h3 k h
    · omega
  · by_cases hkl : k < ss.length
    · rw [List.getElem?_append_left hkl] at hs
      rw [List.getElem?_append_left (by omega)] at hg
      exact (((h6 k s g hs hg).strong (by decide)).ext hz2.ext (fun k hk => hk.1.2)).weak (fun k hk => ⟨hk.1.1, fun hk2 => by
        rcases hnb k hk2 with h | h
        · exact hk.1.2 h
        · have := hk.2; omega⟩)
    · have hk2 : k = ss.length := by
        have := (List.getElem?_eq_some_iff.1 hs).1
        simp at this; omega
      subst hk2
      rw [List.getElem?_append_right (Nat.le_refl _), Nat.sub_self] at hs
      rw [List.getElem?_append_right (by omega), h4, Nat.sub_self] at hg
      simp only [List.getElem?_cons_zero, Option.some.injEq] at hs hg
      subst hs; subst hg
      obtain ⟨A6, c6, he6, hrd6⟩ := Rd.of_own (E := EInt) (hz.has Has.head) h5
      cases he6
      have hnd := hz.nodup
      refine hrd6.weak (fun k hk => ⟨?_, fun hk2 => ?_⟩)
      · rcases Nat.lt_or_ge k w1.heap.size with h | h
        · exact h3 k (hz.cov k (by rw [feet_cons]; exact List.mem_append.2 (.inl (Option.mem_toList.2 hk))) h)
        · omega
      · rw [feet_cons, List.nodup_append] at hnd
        exact hnd.2.2 k (Option.mem_toList.2 hk) k hk2 rfl
theorem StL.done {w w1 wz : World} {v : Value} {ss : List SlV} {A : Option Addr} {n c : Nat} {gs : List (List Int)} {L : List Int} (h : StL w v ss A n c gs L w1)
    (hz : SH w1 (feet (chL A n c L v ss)) (chL A n c L v ss) wz) : StO w v (ss ++ [(⟨A, n, c⟩ : SlV)]) (gs ++ [L]) wz := by
  obtain ⟨h1, h2, h3, h4, h5, h6⟩ := h
  have e1 := h2.size
  have hlen : (ss ++ [(⟨A, n, c⟩ : SlV)]).length = ss.length + 1 := by simp
  have hz2 : SH w1 (feet (chL A n c L v ss)) [own 44 1 v (ss ++ [(⟨A, n, c⟩ : SlV)]).length (ESl.all (ss ++ [(⟨A, n, c⟩ : SlV)]))] wz := by rw [hlen]; exact hz.rem Rem.head
  have hsub : ∀ k, k ∈ feet [own 44 1 v (ss ++ [(⟨A, n, c⟩ : SlV)]).length (ESl.all (ss ++ [(⟨A, n, c⟩ : SlV)]))] → k ∈ feet (chL A n c L v ss) := fun k hk => by
    rw [feet_cons, hlen] at *
    exact List.mem_append.2 (.inr hk)
  refine ⟨hz2.rebase, h2.trans hz2.ext (fun x hx hlt => absurd (h3 x hx) (by omega)), fun k hk => h3 k (hsub k hk), by simp [h4], fun k s g hs hg => ?_⟩
  by_cases hkl : k < ss.length
  · rw [List.getElem?_append_left hkl] at hs
    rw [List.getElem?_append_left (by omega)] at hg
    exact ((h6 k s g hs hg).ext hz2.ext (fun k hk => hk.2)).weak (fun k hk => ⟨hk.1, fun hk2 => hk.2 (hsub k hk2)⟩)
  · have hk2 : k = ss.length := by
      have := (List.getElem?_eq_some_iff.1 hs).1
      simp at this; omega
    subst hk2
    rw [List.getElem?_append_right (Nat.le_refl _), Nat.sub_self] at hs
    rw [List.getElem?_append_right (by omega), h4, Nat.sub_self] at hg
    simp only [List.getElem?_cons_zero, Option.some.injEq] at hs hg
    subst hs; subst hg
    obtain ⟨A6, c6, he6, hrd6⟩ := Rd.of_own (E := EInt) (hz.has Has.head) h5
    cases he6
    have hnd := hz.nodup
    refine hrd6.weak (fun k hk => ⟨h3 k (by rw [feet_cons]; exact List.mem_append.2 (.inl (Option.mem_toList.2 hk))), fun hk2 => ?_⟩)
    rw [feet_cons, List.nodup_append] at hnd
    rw [hlen] at hk2
    exact hnd.2.2 k (Option.mem_toList.2 hk) k hk2 rfl
theorem add0 (A : Option Addr) (c : Nat) : (if c = 0 then A else A.map (·.add (0 * 1))) = A := by
  split
  · rfl
  · cases A with
    | none => rfl
    | some a => cases a; simp [Addr.add]
theorem SH.ownCut {b : World} {S : List Nat} {w : World} {g e m c q : Nat} {xs : List Value} (h : SH b S [own e 1 (.slice (some ⟨g, 0, none⟩) m c) m xs] w) (hq : q ≤ m) : SH b S [own e 1 (.slice (some ⟨g, 0, none⟩) q c) q (xs.take q)] w := by
  refine ⟨h.ext, h.nodup, fun k hk => ?_, h.cov⟩
  have h1 := h.has Has.head
  rw [List.mem_singleton.1 hk]
  obtain ⟨hl, h2⟩ := h1
  refine ⟨by rw [List.length_take]; omega, .inr ?_⟩
  rcases h2 with ⟨h3, _⟩ | ⟨g', cap, cur, hv, hg, hb, hc1, hc2, hc3, hc4⟩
  · cases h3
  · cases hv
    refine ⟨g, c, cur, rfl, hg, hb, by omega, hc2, hc3, ?_⟩
    rw [← hc4, List.take_take]
    congr 1
    omega
theorem ESl_take (l : List SlV) : ∀ q, (ESl.all l).take q = ESl.all (l.take q) := by
  induction l with
  | nil => intro q; simp [Enc.all]
  | cons x l ih =>
    intro q
    cases q with
    | zero => simp [Enc.all]
    | succ q =>
      have := ih q
      simp only [Enc.all, List.flatMap_cons, List.take_succ_cons] at this ⊢
      rw [← this]
      rfl
def cut8 (s : SlV) : SlV := if 8 < s.n then ⟨s.A, 8, s.c⟩ else s
theorem cut_step {l : List SlV} {i : Nat} {x : SlV} (hx : l[i]? = some x) : ((l.take i).map cut8 ++ l.drop i)[i]? = some x ∧ ((l.take i).map cut8 ++ l.drop i).set i (cut8 x) = (l.take (i + 1)).map cut8 ++ l.drop (i + 1) ∧ (cut8 x = x → (l.take i).map cut8 ++ l.drop i = (l.take (i + 1)).map cut8 ++ l.drop (i + 1)) := by
  have hlt := (List.getElem?_eq_some_iff.1 hx).1
  have hd : l.drop i = x :: l.drop (i + 1) := by rw [List.drop_eq_getElem_cons hlt, (List.getElem?_eq_some_iff.1 hx).2]
  have hlen : ((l.take i).map cut8).length = i := by simp; omega
  rw [take_snoc' hx, hd, List.map_append, List.map_cons, List.map_nil, List.append_assoc]
  refine ⟨?_, ?_, fun h => by rw [h]; rfl⟩
  · rw [List.getElem?_append_right (by omega), hlen, Nat.sub_self]; rfl
  · rw [List.set_append_right _ _ (by omega), hlen, Nat.sub_self]; rfl
structure PsSt where
  k : Nat
  v : Value
  ss : List SlV
  A : Option Addr
  n : Nat
  c : Nat
  gs : List (List Int)
  L : List Int
theorem refParse_c (w : World) (s : List UInt8) (hs : s.length ≤ 400) :
    Calls Tryd.prog 30 [.string (bs s)].toArray w (parseR w s) := by
  refine calls (n := 120) Tryd.func30 rfl Tryd.ntmps30 rfl ?_
  refine CW.sub (H' := SH w [] []) ?_ (Sub.refl _) (fun x hx => SH.start' _ _ hx)
  refine CW.seq (CW.region ?_)
  refine RW.assign rfl rfl ?_
  refine RW.assign rfl rfl ?_
  refine RW.nil (EX.seq (CW.seq (CW.seq (CW.region ?_))))
  refine RW.assign rfl rfl ?_
  refine RW.nil (EX.seq (CW.block ?_))
  -- mq: loop
  refine CW.loop (ι := Nat) (fun k => [(0, .string (bs s)), (4, .int .i64 (k : Int))]) (fun _ => SH w [] []) (fun k => k ≤ s.length ∧ ∀ j c, j < k → s[j]? = some c → inHead (UInt8.toNat c) = true) (fun k => s.length - k) ?_ ?_
  · exact fun w' hw' => ⟨0, ⟨Nat.zero_le _, fun j c hj => absurd hj (by omega)⟩, (by repeat (first | exact Sub.nil | refine Sub.cons (by rfl) ?_)), hw'⟩
  · rintro k ⟨hk, hall⟩
    refine CW.seq (CW.seq (CW.region ?_))
    refine RW.move rfl rfl ?_
    refine RW.move rfl rfl ?_
    refine RW.lenS Tryd.underlying9 rfl rfl ?_
    refine RW.lss rfl rfl rfl ?_
    refine RW.nil (EX.seq ?_)
    -- mq: cond
    first | refine CW.condD rfl (fun hlt => ?_) (fun hlt => ?_) | refine CW.cond rfl (fun hlt => ?_) (fun hlt => ?_)
    · skip
      obtain ⟨c, hc⟩ : ∃ c, s[k]? = some c := ⟨s[k]'(by omega), List.getElem?_eq_getElem _⟩
      refine CW.skip (EX.seq (CW.seq (CW.block (CW.seq ?_))))
      -- mq: region
      refine CW.join ([(27, .bool (!inHead c.toNat)), (0, .string (bs s)), (4, .int .i64 (k : Int))]) (SH w [] []) ?_ ?_
      · skip
        refine CW.region ?_
        refine RW.move rfl rfl ?_
        refine RW.move rfl rfl ?_
        refine RW.ixStr (q := k) Tryd.underlying9 rfl rfl rfl (by omega) hc ?_
        refine RW.geq rfl rfl rfl ?_
        refine RW.move rfl rfl ?_
        -- mq: guard slot 21
        refine RW.casesB 21 rfl (fun h21 => ?_) (fun h21 => ?_)
        · skip
          have h21p := of_decide_eq_true h21
          refine RW.guardT rfl rfl h21 ?_
          refine RW.move rfl rfl ?_
          refine RW.guardT rfl rfl h21 ?_
          refine RW.move rfl rfl ?_
          refine RW.guardT rfl rfl h21 ?_
          refine RW.ixStr (q := k) Tryd.underlying9 rfl rfl rfl (by omega) hc ?_
          refine RW.guardT rfl rfl h21 ?_
          refine RW.leq rfl rfl rfl ?_
          refine RW.pickB rfl rfl h21 rfl ?_
          refine RW.not_ rfl rfl ?_
          refine RW.nil ?_
          -- mq: joinend
          have e : decide ((c.toNat : Int) ≤ 59) = inHead c.toNat := by
            rw [inHead, decide_eq_true (show 48 ≤ c.toNat by omega), Bool.true_and, Bool.eq_iff_iff, decide_eq_true_iff, decide_eq_true_iff]; omega
          exact EX.jn (Sub.cons (congrArg (fun x => some (Value.bool (!x))) e) (by repeat (first | exact Sub.nil | refine Sub.cons (by rfl) ?_))) (fun _ h => h)
        · skip
          have h21p := of_decide_eq_false h21
          refine RW.guardF rfl rfl rfl h21 ?_
          refine RW.guardF rfl rfl rfl h21 ?_
          refine RW.guardF rfl rfl rfl h21 ?_
          refine RW.guardF rfl rfl rfl h21 ?_
          refine RW.pickC rfl rfl h21 rfl ?_
          refine RW.not_ rfl rfl ?_
          refine RW.nil ?_
          -- mq: joinend
          have e : false = inHead c.toNat := by rw [inHead, decide_eq_false (show ¬ 48 ≤ c.toNat by omega)]; rfl
          exact EX.jn (Sub.cons (congrArg (fun x => some (Value.bool (!x))) e) (by repeat (first | exact Sub.nil | refine Sub.cons (by rfl) ?_))) (fun _ h => h)
      · skip
        refine EX.seq ?_
        -- mq: cond
        first | refine CW.condD rfl (fun h27 => ?_) (fun h27 => ?_) | refine CW.cond rfl (fun h27 => ?_) (fun h27 => ?_)
        · skip
          refine CW.seq (CW.region ?_)
          refine RW.assign rfl rfl ?_
          refine RW.assign rfl rfl ?_
          refine RW.nil (EX.seq (CW.ret (EX.bkR (EX.seqR (EX.lpR (EX.bkR (EX.seqR ?_)))))))
          refine EX.fin2 Tryd.results30 rfl rfl (fun wz hw => ?_)
          -- mq: done
          have hh : ¬ headB s = true := fun e => by
            have := List.all_eq_true.1 e c (List.mem_of_getElem? hc)
            rw [this] at h27; cases h27
          rw [parseR, if_neg hh]
          exact ⟨rfl, hw.ext⟩
        · skip
          refine CW.skip (EX.bkN (EX.seq (CW.region ?_)))
          refine RW.move rfl rfl ?_
          refine RW.add rfl rfl rfl (wrap64 (by omega) (by omega)) ?_
          refine RW.assign rfl rfl ?_
          refine RW.nil ?_
          -- mq: loopend
          refine EX.lpN (k + 1) ⟨by omega, fun j c' hj hc' => ?_⟩ (by omega) (by repeat (first | exact Sub.nil | refine Sub.cons (by rfl) ?_)) (fun w' hw' => hw')
          by_cases hjk : j = k
          · subst hjk
            rw [hc] at hc'
            simp only [Option.some.injEq] at hc'
            subst hc'
            simpa using h27
          · exact hall j c' (by omega) hc'
    · skip
      have hh : headB s = true := by
        refine List.all_eq_true.2 (fun c hc => ?_)
        obtain ⟨j, hj⟩ := List.getElem?_of_mem hc
        exact hall j c (by have := (List.getElem?_eq_some_iff.1 hj).1; omega) hj
      refine CW.exit (EX.seqE (EX.lpE (EX.bkE (EX.seq (CW.seq (CW.region ?_))))))
      refine RW.buildSlc sl44 rfl rfl rfl rfl (fun g28 hg28 hf28 => ?_)
      refine RW.buildSlc sl36 rfl rfl rfl rfl (fun g29 hg29 hf29 => ?_)
      refine RW.assign rfl rfl ?_
      refine RW.nil (EX.seq (CW.seq (CW.seq (CW.region ?_))))
      refine RW.assign rfl rfl ?_
      refine RW.nil (EX.seq (CW.block ?_))
      -- mq: loop
      refine CW.loop (ι := PsSt) (fun t => [(0, .string (bs s)), (5, t.v), (6, .int .i64 (t.k : Int))]) (fun t => StL w t.v t.ss t.A t.n t.c t.gs t.L) (fun t => t.k ≤ s.length ∧ refSt (s.take t.k) = t.gs ++ [t.L] ∧ 1 ≤ t.n ∧ t.n ≤ t.k + 1 ∧ t.ss.length ≤ t.k ∧ ∀ a ∈ t.L, -1 ≤ a ∧ a ≤ 65535) (fun t => s.length - t.k) ?_ ?_
      · intro w' hw'
        have hw2 := (hw'.ownBlk (m := 1) (sz := 1) Upd.head rfl (by decide)).ownBlk (m := 1) (sz := 1) (Upd.tail Upd.head) rfl (by decide)
        refine ⟨⟨0, .slice (some ⟨g29, 0, none⟩) 1 1, [], some ⟨g28, 0, none⟩, 1, 1, [], [-1]⟩, ⟨Nat.zero_le _, rfl, Nat.le_refl _, Nat.le_refl _, Nat.le_refl _, by simp⟩, (by repeat (first | exact Sub.nil | refine Sub.cons (by rfl) ?_)), ?_⟩
        refine ⟨hw2.swap.rebase, hw2.ext, fun k hk => ?_, rfl, rfl, by simp⟩
        rcases Nat.lt_or_ge k w.heap.size with h | h
        · exact absurd (hw2.swap.cov k hk h) (by simp)
        · exact h
      · rintro ⟨k, v, ss, AL, nL, cL, gs, L⟩ ⟨hk, hst0, hn1, hnk, hssk, hrng⟩
        dsimp only at hk hst0 hn1 hnk hssk hrng ⊢
        refine CW.each fun w1 hst => ?_
        obtain ⟨h1, h2, h3, h4, h5, h6⟩ := id hst
        generalize hS : feet (chL AL nL cL L v ss) = S at *
        refine CW.sub (H' := SH w1 S (chL AL nL cL L v ss)) ?_ (Sub.refl _) (fun x hx => hx ▸ h1)
        refine CW.formOwn (v := v) (Has.tail Has.head) (fun A5 c5 hv5 hcap5 hmax5 hlen5 hg5 => ?_)
        subst hv5
        obtain ⟨g5, rfl⟩ := hg5 (by omega)
        refine CW.formOwn (v := .slice AL nL cL) Has.head (fun AX cX hvX hcapX hmaxX hlenX hgX => ?_)
        cases hvX
        obtain ⟨gl, rfl⟩ := hgX (by omega)
        have hslot : (ss ++ [(⟨some ⟨gl, 0, none⟩, nL, cL⟩ : SlV)])[ss.length]? = some ⟨some ⟨gl, 0, none⟩, nL, cL⟩ := by simp
        refine CW.seq (CW.seq (CW.region ?_))
        refine RW.move rfl rfl ?_
        refine RW.move rfl rfl ?_
        refine RW.lenS Tryd.underlying9 rfl rfl ?_
        refine RW.lss rfl rfl rfl ?_
        refine RW.nil (EX.seq ?_)
        -- mq: cond
        first | refine CW.condD rfl (fun hlt2 => ?_) (fun hlt2 => ?_) | refine CW.cond rfl (fun hlt2 => ?_) (fun hlt2 => ?_)
        · skip
          obtain ⟨c, hc⟩ : ∃ c, s[k]? = some c := ⟨s[k]'(by omega), List.getElem?_eq_getElem _⟩
          have hin := hall k c (by omega) hc
          have htk : refSt (s.take (k + 1)) = refStep (gs ++ [L]) c := by
            rw [List.take_add_one, hc, Option.toList_some, refSt_snoc _ _ hin, hst0]
          refine CW.skip (EX.seq (CW.seq (CW.block (CW.seq (CW.region ?_)))))
          refine RW.move rfl rfl ?_
          refine RW.lenSl Tryd.underlying36 rfl rfl ?_
          refine RW.sub_ rfl rfl rfl (wrap64 (by omega) (by omega)) ?_
          refine RW.assign rfl rfl ?_
          refine RW.nil (EX.seq (CW.seq ?_))
          -- mq: region
          refine CW.region ?_
          refine RW.move rfl rfl ?_
          refine RW.move rfl rfl ?_
          refine RW.ixAddr (q := ss.length) sl36 rfl rfl rfl (by first | rfl | assumption) (by omega) (by omega) ?_
          refine RW.load1 sc44 rfl rfl (fun w' hw' => (show _ = some (Value.slice (some ⟨gl, 0, none⟩) nL cL) from hw'.own_at (E := ESl) (by first | exact Has.head | exact Has.tail Has.head | exact Has.tail (Has.tail Has.head) | exact Has.tail (Has.tail (Has.tail Has.head)) | exact Has.tail (Has.tail (Has.tail (Has.tail Has.head))) | exact Has.tail (Has.tail (Has.tail (Has.tail (Has.tail Has.head)))) | exact Has.tail (Has.tail (Has.tail (Has.tail (Has.tail (Has.tail Has.head)))))) hslot 0 _ rfl)) ?_
          refine RW.lenSl Tryd.underlying44 rfl rfl ?_
          refine RW.sub_ rfl rfl rfl (wrap64 (by omega) (by omega)) ?_
          refine RW.assign rfl rfl ?_
          refine RW.nil (EX.seq (CW.block (CW.seq ?_)))
          -- mq: region
          refine CW.region ?_
          refine RW.move rfl rfl ?_
          refine RW.move rfl rfl ?_
          refine RW.ixStr (q := k) Tryd.underlying9 rfl rfl rfl (by omega) hc ?_
          refine RW.eqlI rfl rfl rfl ?_
          refine RW.assign rfl rfl ?_
          refine RW.nil (EX.seq ?_)
          -- mq: cond
          first | refine CW.condD rfl (fun h71 => ?_) (fun h71 => ?_) | refine CW.cond rfl (fun h71 => ?_) (fun h71 => ?_)
          · skip
            have hc59 : c = 59 := UInt8.toNat_inj.1 (by have : (59 : UInt8).toNat = 59 := rfl; omega)
            refine CW.region ?_
            refine RW.move rfl rfl ?_
            refine RW.buildSlc sl44 rfl rfl rfl rfl (fun g77 hg77 hf77 => ?_)
            refine RW.buildSlc sl36 rfl rfl rfl rfl (fun g78 hg78 hf78 => ?_)
            refine RW.append1 sl36 rfl rfl rfl (by first | exact Rem.head | exact Rem.tail Rem.head | exact Rem.tail (Rem.tail Rem.head) | exact Rem.tail (Rem.tail (Rem.tail Rem.head)) | exact Rem.tail (Rem.tail (Rem.tail (Rem.tail Rem.head))) | exact Rem.tail (Rem.tail (Rem.tail (Rem.tail (Rem.tail Rem.head)))) | exact Rem.tail (Rem.tail (Rem.tail (Rem.tail (Rem.tail (Rem.tail Rem.head)))))) (fun _ => by first | exact Upd.head | exact Upd.tail Upd.head | exact Upd.tail (Upd.tail Upd.head) | exact Upd.tail (Upd.tail (Upd.tail Upd.head)) | exact Upd.tail (Upd.tail (Upd.tail (Upd.tail Upd.head))) | exact Upd.tail (Upd.tail (Upd.tail (Upd.tail (Upd.tail Upd.head)))) | exact Upd.tail (Upd.tail (Upd.tail (Upd.tail (Upd.tail (Upd.tail Upd.head)))))) rfl (by repeat (first | exact Ones.nil | exact Enc.ones _ _ | refine Ones.cons rfl ?_)) (by simp only [maxLen]; omega) (by omega) (fun v79 hv79 => ?_)
            refine RW.assign rfl rfl ?_
            refine RW.nil (EX.bkN (EX.bkN (EX.seq (CW.region ?_))))
            refine RW.move rfl rfl ?_
            refine RW.add rfl rfl rfl (wrap64 (by omega) (by omega)) ?_
            refine RW.assign rfl rfl ?_
            refine RW.nil ?_
            -- mq: loopend
            refine EX.lpN ⟨k + 1, v79, ss ++ [(⟨some ⟨gl, 0, none⟩, nL, cL⟩ : SlV)], some ⟨g77, 0, none⟩, 1, 1, gs ++ [L], [-1]⟩ ⟨by dsimp only; omega, by dsimp only; rw [htk, refStep, if_pos hc59], Nat.le_refl _, by dsimp only; omega, by simp; omega, by simp⟩ (by dsimp only; omega) (by repeat (first | exact Sub.nil | refine Sub.cons (by rfl) ?_)) (fun w' hw' => ?_)
            have hw2 := (hw'.ownBlk (m := 1) (sz := 1) Upd.head rfl (by decide)).swap
            refine StL.push hS hst ?_ rfl
            unfold chL
            rw [List.length_append, Enc.all_snoc ESl]
            exact hw2
          · skip
            have hc59 : c ≠ 59 := fun e => h71 (by rw [e]; rfl)
            refine CW.seq (CW.region ?_)
            refine RW.move rfl rfl ?_
            refine RW.move rfl rfl ?_
            refine RW.ixStr (q := k) Tryd.underlying9 rfl rfl rfl (by omega) hc ?_
            refine RW.eqlI rfl rfl rfl ?_
            refine RW.assign rfl rfl ?_
            refine RW.nil (EX.seq ?_)
            -- mq: cond
            first | refine CW.condD rfl (fun h80 => ?_) (fun h80 => ?_) | refine CW.cond rfl (fun h80 => ?_) (fun h80 => ?_)
            · skip
              have hc58 : c = 58 := UInt8.toNat_inj.1 (by have : (58 : UInt8).toNat = 58 := rfl; omega)
              refine CW.region ?_
              refine RW.move rfl rfl ?_
              refine RW.move rfl rfl ?_
              refine RW.move rfl rfl ?_
              refine RW.move rfl rfl ?_
              refine RW.ixAddr (q := ss.length) sl36 rfl rfl rfl (by first | rfl | assumption) (by omega) (by omega) ?_
              refine RW.load1 sc44 rfl rfl (fun w' hw' => (show _ = some (Value.slice (some ⟨gl, 0, none⟩) nL cL) from hw'.own_at (E := ESl) (by first | exact Has.head | exact Has.tail Has.head | exact Has.tail (Has.tail Has.head) | exact Has.tail (Has.tail (Has.tail Has.head)) | exact Has.tail (Has.tail (Has.tail (Has.tail Has.head))) | exact Has.tail (Has.tail (Has.tail (Has.tail (Has.tail Has.head)))) | exact Has.tail (Has.tail (Has.tail (Has.tail (Has.tail (Has.tail Has.head)))))) hslot 0 _ rfl)) ?_
              refine RW.buildSlc sl44 rfl rfl rfl rfl (fun g91 hg91 hf91 => ?_)
              refine RW.append1 sl44 rfl rfl rfl (by first | exact Rem.head | exact Rem.tail Rem.head | exact Rem.tail (Rem.tail Rem.head) | exact Rem.tail (Rem.tail (Rem.tail Rem.head)) | exact Rem.tail (Rem.tail (Rem.tail (Rem.tail Rem.head))) | exact Rem.tail (Rem.tail (Rem.tail (Rem.tail (Rem.tail Rem.head)))) | exact Rem.tail (Rem.tail (Rem.tail (Rem.tail (Rem.tail (Rem.tail Rem.head)))))) (fun _ => by first | exact Upd.head | exact Upd.tail Upd.head | exact Upd.tail (Upd.tail Upd.head) | exact Upd.tail (Upd.tail (Upd.tail Upd.head)) | exact Upd.tail (Upd.tail (Upd.tail (Upd.tail Upd.head))) | exact Upd.tail (Upd.tail (Upd.tail (Upd.tail (Upd.tail Upd.head)))) | exact Upd.tail (Upd.tail (Upd.tail (Upd.tail (Upd.tail (Upd.tail Upd.head)))))) rfl (by repeat (first | exact Ones.nil | exact Enc.ones _ _ | refine Ones.cons rfl ?_)) (by simp only [maxLen]; omega) (by omega) (fun v92 hv92 => ?_)
              -- mq: at
              refine RW.formOwn (v := v92) Has.head (fun A92 c92 hv920 hcap92 hmax92 hlen92 hg92 => ?_)
              subst hv920
              have hset := ESl.all_set (j := 0) (a' := ⟨A92, nL + 1, c92⟩) (v := .slice A92 (nL + 1) c92) hslot (by decide) rfl
              rw [List.set_append_right _ _ (Nat.le_refl _), Nat.sub_self] at hset
              refine RW.ixAddr (q := ss.length) sl36 rfl rfl rfl (by first | rfl | assumption) (by omega) (by omega) ?_
              refine RW.storeOwn1 (o := ss.length * 1) sc44 rfl rfl (by first | exact Upd.head | exact Upd.tail Upd.head | exact Upd.tail (Upd.tail Upd.head) | exact Upd.tail (Upd.tail (Upd.tail Upd.head)) | exact Upd.tail (Upd.tail (Upd.tail (Upd.tail Upd.head))) | exact Upd.tail (Upd.tail (Upd.tail (Upd.tail (Upd.tail Upd.head)))) | exact Upd.tail (Upd.tail (Upd.tail (Upd.tail (Upd.tail (Upd.tail Upd.head)))))) (by simp [Addr.add_lit]) rfl (by rw [ESl.all_length, List.length_append]; show _ < (_ + 1) * 1; omega) ?_
              refine RW.nil (EX.bkN (EX.bkN (EX.seq (CW.region ?_))))
              refine RW.move rfl rfl ?_
              refine RW.add rfl rfl rfl (wrap64 (by omega) (by omega)) ?_
              refine RW.assign rfl rfl ?_
              refine RW.nil ?_
              -- mq: loopend
              refine EX.lpN ⟨k + 1, .slice (some ⟨g5, 0, none⟩) (ss.length + 1) c5, ss, A92, nL + 1, c92, gs, L ++ [-1]⟩ ⟨by dsimp only; omega, by dsimp only; rw [htk, refStep, if_neg hc59, if_pos hc58, onLast_snoc], by dsimp only; omega, by dsimp only; omega, by dsimp only; omega, fun a ha => ?_⟩ (by dsimp only; omega) (by repeat (first | exact Sub.nil | refine Sub.cons (by rfl) ?_)) (fun w' hw' => ?_)
              · rcases List.mem_append.1 ha with h | h
                · exact hrng a h
                · rw [List.mem_singleton.1 h]; omega
              · refine StL.later hS hst ?_ (by rw [List.length_append, h5]; rfl)
                unfold chL
                rw [Enc.all_snoc EInt]
                rw [show ss.length * 1 = ss.length * ESl.sz + 0 from rfl, hset] at hw'
                exact hw'
            · skip
              have hc58 : c ≠ 58 := fun e => h80 (by rw [e]; rfl)
              have hclt := c.toNat_lt
              have hc48 : 48 ≤ c.toNat := by
                simp only [inHead, Bool.and_eq_true, decide_eq_true_eq] at hin
                exact hin.1
              obtain ⟨y, hy⟩ : ∃ y, L[nL - 1]? = some y := ⟨L[nL - 1]'(by omega), List.getElem?_eq_getElem _⟩
              have hyr := hrng y (List.mem_of_getElem? hy)
              have hyset := EInt.all_set (j := 0) (a' := updV y c) (v := .int .i64 (updV y c)) hy (by decide) rfl
              have hyl : onLast (fun n => updV n c) L = L.set (nL - 1) (updV y c) := by
                obtain ⟨M, z, rfl⟩ : ∃ M z, L = M ++ [z] := by
                  rcases List.eq_nil_or_concat L with h | ⟨M, z, h⟩
                  · rw [h] at h5; simp at h5; omega
                  · exact ⟨M, z, by simpa using h⟩
                simp only [List.length_append, List.length_singleton] at h5
                have hm : nL - 1 = M.length := by omega
                rw [hm, List.getElem?_append_right (Nat.le_refl _), Nat.sub_self] at hy
                simp only [List.getElem?_cons_zero, Option.some.injEq] at hy
                subst hy
                rw [onLast_snoc, hm, List.set_append_right _ _ (Nat.le_refl _), Nat.sub_self]
                rfl
              refine CW.seq (CW.region ?_)
              refine RW.move rfl rfl ?_
              refine RW.move rfl rfl ?_
              refine RW.ixAddr (q := ss.length) sl36 rfl rfl rfl (by first | rfl | assumption) (by omega) (by omega) ?_
              refine RW.load1 sc44 rfl rfl (fun w' hw' => (show _ = some (Value.slice (some ⟨gl, 0, none⟩) nL cL) from hw'.own_at (E := ESl) (by first | exact Has.head | exact Has.tail Has.head | exact Has.tail (Has.tail Has.head) | exact Has.tail (Has.tail (Has.tail Has.head)) | exact Has.tail (Has.tail (Has.tail (Has.tail Has.head))) | exact Has.tail (Has.tail (Has.tail (Has.tail (Has.tail Has.head)))) | exact Has.tail (Has.tail (Has.tail (Has.tail (Has.tail (Has.tail Has.head)))))) hslot 0 _ rfl)) ?_
              refine RW.move rfl rfl ?_
              refine RW.ixAddr (q := nL - 1) sl44 rfl rfl rfl (by first | rfl | assumption) (by omega) (by omega) ?_
              refine RW.load1 sc3 rfl rfl (fun w' hw' => hw'.own_at (E := EInt) Has.head hy 0 _ rfl) ?_
              refine RW.assign rfl rfl ?_
              refine RW.nil (EX.seq (CW.seq ?_))
              -- mq: seq
              refine CW.join ([(9, .int .i64 (max 0 y)), (0, .string (bs s)), (5, .slice (some ⟨g5, 0, none⟩) (ss.length + 1) c5), (6, .int .i64 (k : Int)), (7, .int .i64 (((ss.length + 1 : Nat) : Int) - 1)), (8, .int .i64 ((nL : Int) - 1))]) (SH w1 S (chL (some ⟨gl, 0, none⟩) nL cL L (.slice (some ⟨g5, 0, none⟩) (ss.length + 1) c5) ss)) ?_ ?_
              · skip
                refine CW.seq (CW.region ?_)
                refine RW.move rfl rfl ?_
                refine RW.lss rfl rfl rfl ?_
                refine RW.nil (EX.seq ?_)
                -- mq: cond
                first | refine CW.condD rfl (fun h53 => ?_) (fun h53 => ?_) | refine CW.cond rfl (fun h53 => ?_) (fun h53 => ?_)
                · skip
                  refine CW.region ?_
                  refine RW.assign rfl rfl ?_
                  refine RW.nil ?_
                  -- mq: joinend
                  exact EX.jn (Sub.cons (congrArg (fun x => some (Value.int .i64 x)) (by omega)) (by repeat (first | exact Sub.nil | refine Sub.cons (by rfl) ?_))) (fun _ h => h)
                · skip
                  refine CW.skip ?_
                  -- mq: joinend
                  exact EX.jn (Sub.cons (congrArg (fun x => some (Value.int .i64 x)) (by omega)) (by repeat (first | exact Sub.nil | refine Sub.cons (by rfl) ?_))) (fun _ h => h)
              · skip
                refine EX.seq (CW.seq ?_)
                -- mq: region
                refine CW.region ?_
                refine RW.move rfl rfl ?_
                refine RW.mul rfl rfl rfl (wrap64 (by omega) (by omega)) ?_
                refine RW.move rfl rfl ?_
                refine RW.move rfl rfl ?_
                refine RW.ixStr (q := k) Tryd.underlying9 rfl rfl rfl (by omega) hc ?_
                refine RW.convI rfl rfl Tryd.underlying5 Tryd.underlying3 (wrap64 (by omega) (by omega)) ?_
                refine RW.add rfl rfl rfl (wrap64 (by omega) (by omega)) ?_
                refine RW.sub_ rfl rfl rfl (wrap64 (by omega) (by omega)) ?_
                refine RW.assign rfl rfl ?_
                refine RW.nil (EX.seq (CW.seq ?_))
                -- mq: seq
                refine CW.join ([(9, .int .i64 (updV y c)), (0, .string (bs s)), (5, .slice (some ⟨g5, 0, none⟩) (ss.length + 1) c5), (6, .int .i64 (k : Int)), (7, .int .i64 (((ss.length + 1 : Nat) : Int) - 1)), (8, .int .i64 ((nL : Int) - 1))]) (SH w1 S (chL (some ⟨gl, 0, none⟩) nL cL L (.slice (some ⟨g5, 0, none⟩) (ss.length + 1) c5) ss)) ?_ ?_
                · skip
                  refine CW.seq (CW.region ?_)
                  refine RW.move rfl rfl ?_
                  refine RW.gtr rfl rfl rfl ?_
                  refine RW.nil (EX.seq ?_)
                  -- mq: cond
                  first | refine CW.condD rfl (fun h63 => ?_) (fun h63 => ?_) | refine CW.cond rfl (fun h63 => ?_) (fun h63 => ?_)
                  · skip
                    refine CW.region ?_
                    refine RW.assign rfl rfl ?_
                    refine RW.nil ?_
                    -- mq: joinend
                    exact EX.jn (Sub.cons (congrArg (fun x => some (Value.int .i64 x)) (by unfold updV; omega)) (by repeat (first | exact Sub.nil | refine Sub.cons (by rfl) ?_))) (fun _ h => h)
                  · skip
                    refine CW.skip ?_
                    -- mq: joinend
                    exact EX.jn (Sub.cons (congrArg (fun x => some (Value.int .i64 x)) (by unfold updV; omega)) (by repeat (first | exact Sub.nil | refine Sub.cons (by rfl) ?_))) (fun _ h => h)
                · skip
                  refine EX.seq (CW.region ?_)
                  refine RW.move rfl rfl ?_
                  refine RW.move rfl rfl ?_
                  refine RW.ixAddr (q := ss.length) sl36 rfl rfl rfl (by first | rfl | assumption) (by omega) (by omega) ?_
                  refine RW.load1 sc44 rfl rfl (fun w' hw' => (show _ = some (Value.slice (some ⟨gl, 0, none⟩) nL cL) from hw'.own_at (E := ESl) (by first | exact Has.head | exact Has.tail Has.head | exact Has.tail (Has.tail Has.head) | exact Has.tail (Has.tail (Has.tail Has.head)) | exact Has.tail (Has.tail (Has.tail (Has.tail Has.head))) | exact Has.tail (Has.tail (Has.tail (Has.tail (Has.tail Has.head)))) | exact Has.tail (Has.tail (Has.tail (Has.tail (Has.tail (Has.tail Has.head)))))) hslot 0 _ rfl)) ?_
                  refine RW.move rfl rfl ?_
                  refine RW.move rfl rfl ?_
                  refine RW.ixAddr (q := nL - 1) sl44 rfl rfl rfl (by first | rfl | assumption) (by omega) (by omega) ?_
                  refine RW.storeOwn1 (o := (nL - 1) * 1) sc3 rfl rfl (by first | exact Upd.head | exact Upd.tail Upd.head | exact Upd.tail (Upd.tail Upd.head) | exact Upd.tail (Upd.tail (Upd.tail Upd.head)) | exact Upd.tail (Upd.tail (Upd.tail (Upd.tail Upd.head))) | exact Upd.tail (Upd.tail (Upd.tail (Upd.tail (Upd.tail Upd.head)))) | exact Upd.tail (Upd.tail (Upd.tail (Upd.tail (Upd.tail (Upd.tail Upd.head)))))) (by simp [Addr.add_lit]) rfl (by rw [EInt.all_length]; show _ < _ * 1; omega) ?_
                  refine RW.nil (EX.bkN (EX.bkN (EX.seq (CW.region ?_))))
                  refine RW.move rfl rfl ?_
                  refine RW.add rfl rfl rfl (wrap64 (by omega) (by omega)) ?_
                  refine RW.assign rfl rfl ?_
                  refine RW.nil ?_
                  -- mq: loopend
                  refine EX.lpN ⟨k + 1, .slice (some ⟨g5, 0, none⟩) (ss.length + 1) c5, ss, some ⟨gl, 0, none⟩, nL, cL, gs, L.set (nL - 1) (updV y c)⟩ ⟨by dsimp only; omega, by dsimp only; rw [htk, refStep, if_neg hc59, if_neg hc58, onLast_snoc, hyl], by dsimp only; omega, by dsimp only; omega, by dsimp only; omega, fun a ha => ?_⟩ (by dsimp only; omega) (by repeat (first | exact Sub.nil | refine Sub.cons (by rfl) ?_)) (fun w' hw' => ?_)
                  · rcases List.mem_or_eq_of_mem_set ha with h | h
                    · exact hrng a h
                    · rw [h]; unfold updV; omega
                  · refine StL.later hS hst ?_ (by rw [List.length_set, h5])
                    unfold chL
                    rw [show (nL - 1) * 1 = (nL - 1) * EInt.sz + 0 from rfl, hyset] at hw'
                    exact hw'
        · skip
          have hkl : k = s.length := by omega
          subst hkl
          rw [List.take_length] at hst0
          have hrl := refSt_len s
          refine CW.each fun w2 hw2 => ?_
          have hso := StL.done hst (hS ▸ hw2)
          clear hslot
          have hlenx : (ss ++ [(⟨some ⟨gl, 0, none⟩, nL, cL⟩ : SlV)]).length = ss.length + 1 := by simp
          generalize hss' : ss ++ [(⟨some ⟨gl, 0, none⟩, nL, cL⟩ : SlV)] = sl at *
          generalize hgs' : gs ++ [L] = gl' at *
          obtain ⟨k1, k2, k3, k4, k5⟩ := id hso
          rw [hlenx] at k1 k3 k5
          generalize hS2 : feet [own 44 1 (.slice (some ⟨g5, 0, none⟩) (ss.length + 1) c5) (ss.length + 1) (ESl.all sl)] = S2 at *
          refine CW.sub (H' := SH w2 S2 [own 44 1 (.slice (some ⟨g5, 0, none⟩) (ss.length + 1) c5) (ss.length + 1) (ESl.all sl)]) ?_ (Sub.refl _) (fun x hx => hx ▸ k1)
          obtain ⟨q, hq⟩ : ∃ q, q = min (ss.length + 1) 32 := ⟨_, rfl⟩
          have hall : (ESl.all sl).take q = ESl.all (sl.take q) := ESl_take sl q
          have hnest : ∀ (i : Nat) (x : SlV), (sl.take q)[i]? = some x → ∃ g, gl'[i]? = some g ∧ Rd EInt w2 (fun k => w.heap.size ≤ k ∧ k ∉ S2) x.A x.n x.c g := fun i x hx => by
            have hi : i < (sl.take q).length := (List.getElem?_eq_some_iff.1 hx).1
            rw [List.length_take] at hi
            rw [List.getElem?_take, if_pos (by omega)] at hx
            obtain ⟨g, hg⟩ : ∃ g, gl'[i]? = some g := ⟨gl'[i]'(by omega), List.getElem?_eq_getElem _⟩
            exact ⟨g, hg, k5 i x g hx hg⟩
          refine CW.exit (EX.seqE (EX.lpE (EX.bkE (EX.seq (CW.seq ?_)))))
          -- mq: seq
          refine CW.join ([(5, .slice (some ⟨g5, 0, none⟩) q c5)]) (SH w2 S2 [own 44 1 (.slice (some ⟨g5, 0, none⟩) q c5) q (ESl.all (sl.take q))]) ?_ ?_
          · skip
            refine CW.seq (CW.region ?_)
            refine RW.move rfl rfl ?_
            refine RW.lenSl Tryd.underlying36 rfl rfl ?_
            refine RW.gtr rfl rfl rfl ?_
            refine RW.nil (EX.seq ?_)
            -- mq: cond
            first | refine CW.condD rfl (fun h96 => ?_) (fun h96 => ?_) | refine CW.cond rfl (fun h96 => ?_) (fun h96 => ?_)
            · skip
              -- mq: region
              refine CW.region ?_
              refine RW.move rfl rfl ?_
              -- mq: at
              refine RW.sliceSl 0 32 sl36 rfl rfl (.inr ⟨rfl, rfl⟩) (.inl ⟨_, _, rfl, rfl, rfl⟩) (by omega) (by omega) ?_
              rw [add0, Nat.sub_zero, Nat.sub_zero]
              refine RW.assign rfl rfl ?_
              refine RW.nil ?_
              -- mq: joinend
              have hq32 : q = 32 := by omega
              subst hq32
              refine EX.jn (by repeat (first | exact Sub.nil | refine Sub.cons (by rfl) ?_)) (fun w' hw' => ?_)
              rw [← hall]
              exact hw'.ownCut (by omega)
            · skip
              refine CW.skip ?_
              -- mq: joinend
              have hqs : q = ss.length + 1 := by omega
              rw [hqs]
              refine EX.jn (by repeat (first | exact Sub.nil | refine Sub.cons (by rfl) ?_)) (fun w' hw' => ?_)
              rw [List.take_of_length_le (by omega)]
              exact hw'
          · skip
            have htl : (sl.take q).length = q := by rw [List.length_take]; omega
            generalize hsq : sl.take q = sq at *
            refine EX.seq (CW.seq (CW.seq (CW.region ?_)))
            refine RW.assign rfl rfl ?_
            refine RW.nil (EX.seq (CW.block ?_))
            -- mq: loop
            refine CW.loop (ι := Nat) (fun i => [(5, .slice (some ⟨g5, 0, none⟩) q c5), (10, .int .i64 (i : Int))]) (fun i => SH w2 S2 [own 44 1 (.slice (some ⟨g5, 0, none⟩) q c5) q (ESl.all ((sq.take i).map cut8 ++ sq.drop i))]) (fun i => i ≤ q) (fun i => q - i) ?_ ?_
            · exact fun w' hw' => ⟨0, Nat.zero_le _, (by repeat (first | exact Sub.nil | refine Sub.cons (by rfl) ?_)), by simpa using hw'⟩
            · rintro i hi
              refine CW.seq (CW.seq (CW.region ?_))
              refine RW.move rfl rfl ?_
              refine RW.move rfl rfl ?_
              refine RW.lenSl Tryd.underlying36 rfl rfl ?_
              refine RW.lss rfl rfl rfl ?_
              refine RW.nil (EX.seq ?_)
              -- mq: cond
              first | refine CW.condD rfl (fun hlt3 => ?_) (fun hlt3 => ?_) | refine CW.cond rfl (fun hlt3 => ?_) (fun hlt3 => ?_)
              · skip
                obtain ⟨x, hx⟩ : ∃ x, sq[i]? = some x := ⟨sq[i]'(by omega), List.getElem?_eq_getElem _⟩
                obtain ⟨hc1, hc2, hc3⟩ := cut_step hx
                have hxcap : x.n ≤ x.c := by
                  obtain ⟨g, _, hrg⟩ := hnest i x hx
                  exact hrg.cap
                generalize hcur : (sq.take i).map cut8 ++ sq.drop i = cur at *
                have hcurl : cur.length = q := by rw [← hcur]; simp; omega
                refine CW.skip (EX.seq (CW.seq (CW.block (CW.seq (CW.region ?_)))))
                refine RW.move rfl rfl ?_
                refine RW.move rfl rfl ?_
                refine RW.ixAddr (q := i) sl36 rfl rfl rfl (by first | rfl | assumption) (by omega) (by omega) ?_
                refine RW.load1 sc44 rfl rfl (fun w' hw' => (show _ = some (Value.slice x.A x.n x.c) from hw'.own_at (E := ESl) (by first | exact Has.head | exact Has.tail Has.head | exact Has.tail (Has.tail Has.head) | exact Has.tail (Has.tail (Has.tail Has.head)) | exact Has.tail (Has.tail (Has.tail (Has.tail Has.head))) | exact Has.tail (Has.tail (Has.tail (Has.tail (Has.tail Has.head)))) | exact Has.tail (Has.tail (Has.tail (Has.tail (Has.tail (Has.tail Has.head)))))) hc1 0 _ rfl)) ?_
                refine RW.lenSl Tryd.underlying44 rfl rfl ?_
                refine RW.gtr rfl rfl rfl ?_
                refine RW.nil (EX.seq ?_)
                -- mq: cond
                first | refine CW.condD rfl (fun h110 => ?_) (fun h110 => ?_) | refine CW.cond rfl (fun h110 => ?_) (fun h110 => ?_)
                · skip
                  refine CW.region ?_
                  refine RW.move rfl rfl ?_
                  refine RW.move rfl rfl ?_
                  refine RW.move rfl rfl ?_
                  refine RW.move rfl rfl ?_
                  refine RW.ixAddr (q := i) sl36 rfl rfl rfl (by first | rfl | assumption) (by omega) (by omega) ?_
                  refine RW.load1 sc44 rfl rfl (fun w' hw' => (show _ = some (Value.slice x.A x.n x.c) from hw'.own_at (E := ESl) (by first | exact Has.head | exact Has.tail Has.head | exact Has.tail (Has.tail Has.head) | exact Has.tail (Has.tail (Has.tail Has.head)) | exact Has.tail (Has.tail (Has.tail (Has.tail Has.head))) | exact Has.tail (Has.tail (Has.tail (Has.tail (Has.tail Has.head)))) | exact Has.tail (Has.tail (Has.tail (Has.tail (Has.tail (Has.tail Has.head)))))) hc1 0 _ rfl)) ?_
                  -- mq: at
                  refine RW.sliceSl 0 8 sl44 rfl rfl (.inr ⟨rfl, rfl⟩) (.inl ⟨_, _, rfl, rfl, rfl⟩) (by omega) (by omega) ?_
                  rw [add0, Nat.sub_zero, Nat.sub_zero]
                  have hc8 : cut8 x = ⟨x.A, 8, x.c⟩ := by rw [cut8, if_pos (by omega)]
                  have hset := ESl.all_set (j := 0) (a' := cut8 x) (v := .slice x.A 8 x.c) hc1 (by decide) (by rw [hc8]; rfl)
                  rw [hc2] at hset
                  refine RW.ixAddr (q := i) sl36 rfl rfl rfl (by first | rfl | assumption) (by omega) (by omega) ?_
                  refine RW.storeOwn1 (o := i * 1) sc44 rfl rfl (by first | exact Upd.head | exact Upd.tail Upd.head | exact Upd.tail (Upd.tail Upd.head) | exact Upd.tail (Upd.tail (Upd.tail Upd.head)) | exact Upd.tail (Upd.tail (Upd.tail (Upd.tail Upd.head))) | exact Upd.tail (Upd.tail (Upd.tail (Upd.tail (Upd.tail Upd.head)))) | exact Upd.tail (Upd.tail (Upd.tail (Upd.tail (Upd.tail (Upd.tail Upd.head)))))) (by simp [Addr.add_lit]) rfl (by rw [ESl.all_length]; show _ < _ * 1; omega) ?_
                  refine RW.nil (EX.bkN (EX.seq (CW.region ?_)))
                  refine RW.move rfl rfl ?_
                  refine RW.add rfl rfl rfl (wrap64 (by omega) (by omega)) ?_
                  refine RW.assign rfl rfl ?_
                  refine RW.nil ?_
                  -- mq: loopend
                  refine EX.lpN (i + 1) (by omega) (by omega) (by repeat (first | exact Sub.nil | refine Sub.cons (by rfl) ?_)) (fun w' hw' => ?_)
                  rw [show i * 1 = i * ESl.sz + 0 from rfl, hset] at hw'
                  exact hw'
                · skip
                  have hc8 : cut8 x = x := by rw [cut8, if_neg (by omega)]
                  refine CW.skip (EX.bkN (EX.seq (CW.region ?_)))
                  refine RW.move rfl rfl ?_
                  refine RW.add rfl rfl rfl (wrap64 (by omega) (by omega)) ?_
                  refine RW.assign rfl rfl ?_
                  refine RW.nil ?_
                  -- mq: loopend
                  refine EX.lpN (i + 1) (by omega) (by omega) (by repeat (first | exact Sub.nil | refine Sub.cons (by rfl) ?_)) (fun w' hw' => ?_)
                  rw [← hc3 hc8]
                  exact hw'
              · skip
                have hiq : i = q := by omega
                subst hiq
                rw [List.take_of_length_le (by omega), List.drop_eq_nil_of_le (by omega), List.append_nil]
                refine CW.exit (EX.seqE (EX.lpE (EX.bkE (EX.seq (CW.seq (CW.region ?_))))))
                refine RW.move rfl rfl ?_
                refine RW.assign rfl rfl ?_
                refine RW.assign rfl rfl ?_
                refine RW.nil (EX.seq (CW.ret ?_))
                refine EX.fin2 Tryd.results30 rfl rfl (fun wz hw => ?_)
                -- mq: done
                obtain ⟨A6, c6, he6, hrd6⟩ := Rd.of_own (E := ESl) (hw.has Has.head) (by rw [List.length_map]; exact htl)
                cases he6
                have e2 := k2.size
                have hS2m : ∀ k, (Value.slice (some ⟨g5, 0, none⟩) i c5).ownBlock = some k → k ∈ S2 := fun k hk => by
                  rw [← hS2, feet_cons]
                  exact List.mem_append.2 (.inl (Option.mem_toList.2 hk))
                rw [parseR, if_pos hh, parseF_ref, hst0]
                refine ⟨_, _, _, rfl, k2.trans hw.ext (fun x hx hlt => absurd (k3 x hx) (by omega)), sq.map cut8, hrd6.weak (fun k hk => k3 k (hS2m k hk)), by rw [List.length_map, List.length_map, List.length_take]; omega, fun k s' g' hs hg => ?_⟩
                rw [List.getElem?_map] at hs hg
                obtain ⟨x, hx⟩ : ∃ x, sq[k]? = some x := by
                  cases h : sq[k]? with
                  | none => rw [h] at hs; simp at hs
                  | some x => exact ⟨x, rfl⟩
                rw [hx] at hs
                simp only [Option.map_some, Option.some.injEq] at hs
                subst hs
                obtain ⟨g, hgg, hrg⟩ := hnest k x hx
                have hkq : k < sq.length := (List.getElem?_eq_some_iff.1 hx).1
                rw [List.getElem?_take, if_pos (by omega), hgg] at hg
                simp only [Option.map_some, Option.some.injEq] at hg
                subst hg
                have hrz := (hrg.ext hw.ext (fun k hk => hk.2)).weak (F' := fun k => w.heap.size ≤ k) (fun k hk => hk.1)
                have hgl := hrz.len
                unfold cut8
                split
                · rename_i h8
                  have := hrz.cut (p := 0) (q := 8) (by omega) (by omega)
                  rw [show EInt.sz = 1 from rfl, add0, Nat.sub_zero, Nat.sub_zero, List.drop_zero] at this
                  exact this
                · rename_i h8
                  rw [List.take_of_length_le (by omega)]
                  exact hrz
end Go.Proofs.YtjplfonmdjnplaaDoor.Mq
