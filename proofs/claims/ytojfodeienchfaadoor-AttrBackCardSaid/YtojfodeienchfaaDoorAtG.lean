/- groups of ints in rows: reading, clean ones (lines of wip/param) -/
import Derived.Test.YtojfodeienchfaaDoorVals
import Derived.Test.YtojfodeienchfaaDoorTwo
import Derived.Test.YtojfodeienchfaaDoorTypes
namespace Go.Proofs.YtojfodeienchfaaDoor.Mq
open Go Go.RowKit Go.Proofs
def EInt : Enc Int := ⟨fun x => [.int .i64 x], 1, fun _ => rfl, fun _ => by repeat (first | exact Ones.nil | refine Ones.cons rfl ?_)⟩
structure SlV where
  A : Option Addr
  n : Nat
  c : Nat
def ESl : Enc SlV := ⟨fun s => [.slice s.A s.n s.c], 1, fun _ => rfl, fun _ => by repeat (first | exact Ones.nil | refine Ones.cons rfl ?_)⟩
theorem RW.exH {P : Program} {n : Nat} {ops : Array Oper} {Q : Post} {rest : List Oper} {l : Fr} {ι : Type} {H : ι → World → Prop} (h : ∀ i, RW P n ops Q rest l (H i)) : RW P n ops Q rest l (fun w => ∃ i, H i w) :=
  fun w ⟨i, hw⟩ a ha => h i w hw a ha
theorem RW.each {P : Program} {n : Nat} {ops : Array Oper} {Q : Post} {rest : List Oper} {l : Fr} {H : World → Prop} (h : ∀ w, H w → RW P n ops Q rest l (fun x => x = w)) : RW P n ops Q rest l H :=
  fun w hw a ha => h w hw w rfl a ha
theorem CW.exH {P : Program} {n : Nat} {c : Code} {Q : Post} {l : Fr} {ι : Type} {H : ι → World → Prop} (h : ∀ i, CW P n c Q l (H i)) : CW P n c Q l (fun w => ∃ i, H i w) :=
  fun w ⟨i, hw⟩ a ha => h i w hw a ha
/-- groups that lie in owned rows -/
def RdG (w : World) (F : Nat → Prop) (A : Option Addr) (n c : Nat) (gs : List (List Int)) : Prop :=
  ∃ ss : List SlV, Rd ESl w F A n c ss ∧ ss.length = gs.length ∧ ∀ (k : Nat) (s : SlV) (g : List Int), ss[k]? = some s → gs[k]? = some g → Rd EInt w F s.A s.n s.c g
theorem RdG.len {w : World} {F : Nat → Prop} {A : Option Addr} {n c : Nat} {gs : List (List Int)} (h : RdG w F A n c gs) : gs.length = n := by
  obtain ⟨ss, h1, h2, _⟩ := h
  rw [← h2]; exact h1.len
theorem RdG.cap' {w : World} {F : Nat → Prop} {A : Option Addr} {n c : Nat} {gs : List (List Int)} (h : RdG w F A n c gs) : n ≤ c ∧ c ≤ maxLen := by
  obtain ⟨ss, h1, h2, _⟩ := h
  exact ⟨h1.cap, h1.max⟩
theorem RdG.ext {S : List Nat} {w w' : World} {F : Nat → Prop} {A : Option Addr} {n c : Nat} {gs : List (List Int)} (h : RdG w F A n c gs) (he : Ext S w w') (hs : ∀ k, F k → k ∉ S) : RdG w' F A n c gs := by
  obtain ⟨ss, h1, h2, h3⟩ := h
  exact ⟨ss, h1.ext he hs, h2, fun k s g hk hg => (h3 k s g hk hg).ext he hs⟩
theorem RdG.weak {w : World} {F F' : Nat → Prop} {A : Option Addr} {n c : Nat} {gs : List (List Int)} (h : RdG w F A n c gs) (hF : ∀ k, F k → F' k) : RdG w F' A n c gs := by
  obtain ⟨ss, h1, h2, h3⟩ := h
  exact ⟨ss, h1.weak hF, h2, fun k s g hk hg => (h3 k s g hk hg).weak hF⟩
theorem RdG.strong {w : World} {F : Nat → Prop} {A : Option Addr} {n c : Nat} {gs : List (List Int)} (h : RdG w F A n c gs) : RdG w (fun k => F k ∧ k < w.heap.size) A n c gs := by
  obtain ⟨ss, h1, h2, h3⟩ := h
  exact ⟨ss, h1.strong (by decide), h2, fun k s g hk hg => (h3 k s g hk hg).strong (by decide)⟩
theorem RdG.at_ {w : World} {F : Nat → Prop} {A : Option Addr} {n c : Nat} {gs : List (List Int)} (h : RdG w F A n c gs) {k : Nat} {g : List Int} (hk : gs[k]? = some g) :
    ∃ ad B m d, A = some ad ∧ F ad.block ∧ w.cell? (ad.add (k * 1)) = some (.slice B m d) ∧ Rd EInt w F B m d g := by
  obtain ⟨ss, h1, h2, h3⟩ := h
  have hlt := (List.getElem?_eq_some_iff.1 hk).1
  obtain ⟨s, hs⟩ : ∃ s, ss[k]? = some s := ⟨ss[k]'(by omega), List.getElem?_eq_getElem _⟩
  obtain ⟨ad, hA, hF, hc⟩ := h1.at_ hs
  refine ⟨ad, s.A, s.n, s.c, hA, hF, ?_, h3 k s g hs hk⟩
  have := hc 0 (.slice s.A s.n s.c) rfl
  simpa [ESl, Addr.add] using this
theorem RdG.cut {w : World} {F : Nat → Prop} {A : Option Addr} {n c : Nat} {gs : List (List Int)} (h : RdG w F A n c gs) {p q : Nat} (hp : p ≤ q) (hq : q ≤ n) : RdG w F (if c = p then A else A.map (·.add (p * 1))) (q - p) (c - p) ((gs.take q).drop p) := by
  obtain ⟨ss, h1, h2, h3⟩ := h
  refine ⟨(ss.take q).drop p, h1.cut hp hq, by simp [h2], fun k s g hk hg => ?_⟩
  rw [List.getElem?_drop, List.getElem?_take] at hk hg
  split at hk
  · rename_i hlt
    rw [if_pos hlt] at hg
    exact h3 _ s g hk hg
  · cases hk
theorem RdG.nil (w : World) (F : Nat → Prop) : RdG w F none 0 0 [] := ⟨[], Rd.nil ESl w F 0 (by decide) none, rfl, by simp⟩
def RetG (w : World) (gs : List (List Int)) : Ending → World → Prop := fun e w' => ∃ A n c, e = .returned (.slice A n c) ∧ Ext [] w w' ∧ RdG w' (fun k => w.heap.size ≤ k) A n c gs
def IsG (gs : List (List Int)) (w : World) (v : Value) (w' : World) : Prop := ∃ A n c, v = .slice A n c ∧ RdG w' (fun k => w.heap.size ≤ k) A n c gs
theorem RetG.toA {w w' : World} {gs : List (List Int)} {e : Ending} (h : RetG w gs e w') : RetA (IsG gs w) w e w' := by
  obtain ⟨A, n, c, rfl, h1, h2⟩ := h
  exact ⟨_, rfl, h1, A, n, c, rfl, h2⟩
/-- rows of groups that grow -/
def StO (w : World) (v : Value) (ss : List SlV) (gs : List (List Int)) (w' : World) : Prop :=
  SH w' (feet [own 40 1 v ss.length (ESl.all ss)]) [own 40 1 v ss.length (ESl.all ss)] w' ∧ Ext [] w w' ∧ (∀ k ∈ feet [own 40 1 v ss.length (ESl.all ss)], w.heap.size ≤ k) ∧ ss.length = gs.length ∧
    ∀ (k : Nat) (s : SlV) (g : List Int), ss[k]? = some s → gs[k]? = some g → Rd EInt w' (fun k => w.heap.size ≤ k ∧ k ∉ feet [own 40 1 v ss.length (ESl.all ss)]) s.A s.n s.c g
theorem StO.step {w w1 w3 wz : World} {v v' : Value} {ss : List SlV} {gs : List (List Int)} {s : SlV} {g : List Int} {S : List Nat} (hS : feet [own 40 1 v ss.length (ESl.all ss)] = S) (h : StO w v ss gs w1) (hx : Ext S w1 w3)
    (hz : SH w3 S [own 40 1 v' (ss.length + 1) (ESl.all ss ++ ESl.enc s)] wz) (hr : Rd EInt w3 (fun k => w.heap.size ≤ k ∧ k ∉ S) s.A s.n s.c g) : StO w v' (ss ++ [s]) (gs ++ [g]) wz := by
  obtain ⟨h1, h2, h3, h4, h5⟩ := h
  rw [hS] at h3 h5
  have hz2 : SH w3 S [own 40 1 v' (ss ++ [s]).length (ESl.all (ss ++ [s]))] wz := by
    rw [List.length_append, Enc.all_snoc ESl]; exact hz
  have e1 := h2.size
  have e2 := hx.size
  have hnb : ∀ k, k ∈ feet [own 40 1 v' (ss ++ [s]).length (ESl.all (ss ++ [s]))] → k ∈ S ∨ w3.heap.size ≤ k := fun k hk => by
    rcases Nat.lt_or_ge k w3.heap.size with h | h
    · exact .inl (hz2.cov k hk h)
    · exact .inr h
  have hxz : Ext S w1 wz := hx.trans hz2.ext (fun x hx _ => hx)
  refine ⟨hz2.rebase, h2.trans hxz (fun x hx hlt => absurd (h3 x hx) (by omega)), fun k hk => ?_, by simp [h4], fun k s' g' hs hg => ?_⟩
  · rcases hnb k hk with h | h
    · exact h3 k h
    · omega
  · by_cases hkl : k < ss.length
    · rw [List.getElem?_append_left hkl] at hs
      rw [List.getElem?_append_left (by omega)] at hg
      exact (((h5 k s' g' hs hg).strong (by decide)).ext hxz (fun k hk => hk.1.2)).weak (fun k hk => ⟨hk.1.1, fun hk2 => by
        rcases hnb k hk2 with h | h
        · exact hk.1.2 h
        · have := hk.2; omega⟩)
    · have hk2 : k = ss.length := by
        have := (List.getElem?_eq_some_iff.1 hs).1
        simp at this; omega
      subst hk2
      rw [List.getElem?_append_right (Nat.le_refl _), Nat.sub_self] at hs
      rw [List.getElem?_append_right (by omega), h4, Nat.sub_self] at hg
      simp only [List.getElem?_cons_zero, Option.some.injEq] at hs hg
      subst hs; subst hg
      exact ((hr.strong (by decide)).ext hz2.ext (fun k hk => hk.1.2)).weak (fun k hk => ⟨hk.1.1, fun hk2 => by
        rcases hnb k hk2 with h | h
        · exact hk.1.2 h
        · have := hk.2; omega⟩)
theorem StO.ret {w w' : World} {v : Value} {ss : List SlV} {gs : List (List Int)} (h : StO w v ss gs w') : ∃ A c, v = .slice A ss.length c ∧ Ext [] w w' ∧ RdG w' (fun k => w.heap.size ≤ k) A ss.length c gs := by
  obtain ⟨h1, h2, h3, h4, h5⟩ := h
  obtain ⟨A, c, he, hrd⟩ := Rd.of_own (E := ESl) (h1.has Has.head) rfl
  exact ⟨A, c, he, h2, ss, hrd.weak (fun k hk => h3 k (by rw [feet_cons]; exact List.mem_append.2 (.inl (Option.mem_toList.2 hk)))), h4, fun k s g hs hg => (h5 k s g hs hg).weak (fun k hk => hk.1)⟩
theorem StO.nil {w w' : World} (h : SH w [] [own 40 1 (.slice none 0 0) 0 []] w') : StO w (.slice none 0 0) [] [] w' :=
  ⟨h.rebase, h.ext, fun k hk => by simp [feet, own, Value.ownBlock] at hk, rfl, by simp⟩
theorem StO.ext {w w1 w2 : World} {v : Value} {ss : List SlV} {gs : List (List Int)} (h : StO w v ss gs w1) (hx : Ext [] w1 w2) : StO w v ss gs w2 := by
  obtain ⟨h1, h2, h3, h4, h5⟩ := h
  exact ⟨(h1.keep hx).rebase, h2.trans0 hx, h3, h4, fun k s g hs hg => (h5 k s g hs hg).ext hx (by simp)⟩
theorem StO.later {w w1 wz : World} {v : Value} {ss : List SlV} {gs : List (List Int)} (h : StO w v ss gs w1) (hz : SH w1 (feet [own 40 1 v ss.length (ESl.all ss)]) [own 40 1 v ss.length (ESl.all ss)] wz) : StO w v ss gs wz := by
  obtain ⟨h1, h2, h3, h4, h5⟩ := h
  have e1 := h2.size
  exact ⟨hz.rebase, h2.trans hz.ext (fun x hx hlt => absurd (h3 x hx) (by omega)), h3, h4, fun k s g hs hg => (h5 k s g hs hg).ext hz.ext (fun k hk => hk.2)⟩
theorem EX.formOwn1 {Q : Post} {l : Fr} {b : World} {S : List Nat} {cs : List Chunk} {e sz m : Nat} {v : Value} {xs : List Value} (hb : Has cs (own e sz v m xs)) (h : ∀ A c', v = .slice A m c' → EX Q .normal l (SH b S cs)) : EX Q .normal l (SH b S cs) := by
  intro w hw
  have := hw.has hb
  rcases this.2 with ⟨rfl, h0⟩ | ⟨g, cap, cur, rfl, _⟩
  · exact h none 0 (by rw [h0]) w hw
  · exact h _ _ rfl w hw
def cleanN (n : Int) : Int := max (-1) (min n 65535)
def cleanG (g : List Int) : List Int := if g = [] then [-1] else (g.take 8).map cleanN
def cleanF (gs : List (List Int)) : List (List Int) := if gs = [] then [[-1]] else (gs.take 32).map cleanG
theorem take_snoc' {α : Type} {l : List α} {k : Nat} {a : α} (h : l[k]? = some a) : l.take (k + 1) = l.take k ++ [a] := by rw [List.take_add_one, h]; rfl
theorem CW.each {P : Program} {n : Nat} {c : Code} {Q : Post} {l : Fr} {H : World → Prop} (h : ∀ w, H w → CW P n c Q l (fun x => x = w)) : CW P n c Q l H :=
  fun w hw a ha => h w hw w rfl a ha
theorem cleanG_length (g : List Int) : (cleanG g).length ≤ 8 := by
  unfold cleanG
  split
  · simp
  · rw [List.length_map, List.length_take]; omega
theorem cleanF_length (gs : List (List Int)) : (cleanF gs).length ≤ 32 := by
  unfold cleanF
  split
  · simp
  · rw [List.length_map, List.length_take]; omega
theorem cleanF_mem (gs : List (List Int)) : ∀ g ∈ cleanF gs, 1 ≤ g.length ∧ g.length ≤ 8 := by
  intro g hg
  have hc : ∀ x : List Int, 1 ≤ (cleanG x).length := fun x => by
    unfold cleanG
    split
    · simp
    · rename_i h
      have : x.length ≠ 0 := fun e => h (List.eq_nil_of_length_eq_zero e)
      rw [List.length_map, List.length_take]; omega
  unfold cleanF at hg
  split at hg
  · rw [List.mem_singleton.1 hg]; simp
  · obtain ⟨x, _, rfl⟩ := List.mem_map.1 hg
    exact ⟨hc x, cleanG_length x⟩
theorem StO.step2 {w w1 wz : World} {v v' : Value} {ss : List SlV} {gs : List (List Int)} {A : Option Addr} {n c : Nat} {g : List Int} {S : List Nat} (hS : feet [own 40 1 v ss.length (ESl.all ss)] = S) (h : StO w v ss gs w1) (hgn : g.length = n)
    (hz : SH w1 S [own 3 1 (.slice A n c) n (EInt.all g), own 40 1 v' (ss.length + 1) (ESl.all ss ++ ESl.enc (⟨A, n, c⟩ : SlV))] wz) : StO w v' (ss ++ [(⟨A, n, c⟩ : SlV)]) (gs ++ [g]) wz := by
  obtain ⟨h1, h2, h3, h4, h5⟩ := h
  rw [hS] at h3 h5
  have hz2 : SH w1 S [own 40 1 v' (ss ++ [(⟨A, n, c⟩ : SlV)]).length (ESl.all (ss ++ [(⟨A, n, c⟩ : SlV)]))] wz := by
    rw [List.length_append, Enc.all_snoc ESl]; exact hz.rem Rem.head
  have e1 := h2.size
  have hnb : ∀ k, k ∈ feet [own 40 1 v' (ss ++ [(⟨A, n, c⟩ : SlV)]).length (ESl.all (ss ++ [(⟨A, n, c⟩ : SlV)]))] → k ∈ S ∨ w1.heap.size ≤ k := fun k hk => by
    rcases Nat.lt_or_ge k w1.heap.size with h | h
    · exact .inl (hz2.cov k hk h)
    · exact .inr h
  refine ⟨hz2.rebase, h2.trans hz2.ext (fun x hx hlt => absurd (h3 x hx) (by omega)), fun k hk => ?_, by simp [h4], fun k s' g' hs hg => ?_⟩
  · rcases hnb k hk with h | h
    · exact h3 k h
    · omega
  · by_cases hkl : k < ss.length
    · rw [List.getElem?_append_left hkl] at hs
      rw [List.getElem?_append_left (by omega)] at hg
      exact (((h5 k s' g' hs hg).strong (by decide)).ext hz2.ext (fun k hk => hk.1.2)).weak (fun k hk => ⟨hk.1.1, fun hk2 => by
        rcases hnb k hk2 with h | h
        · exact hk.1.2 h
        · have := hk.2; omega⟩)
    · have hk2 : k = ss.length := by
        have := (List.getElem?_eq_some_iff.1 hs).1
        simp at this; omega
      subst hk2
      rw [List.getElem?_append_right (Nat.le_refl _), Nat.sub_self] at hs
      rw [List.getElem?_append_right (by omega), h4, Nat.sub_self] at hg
      simp only [List.getElem?_cons_zero, Option.some.injEq] at hs hg
      subst hs; subst hg
      obtain ⟨A6, c6, he6, hrd6⟩ := Rd.of_own (E := EInt) (hz.has Has.head) hgn
      cases he6
      have hnd := hz.nodup
      refine hrd6.weak (fun k hk => ⟨?_, fun hk2 => ?_⟩)
      · rcases Nat.lt_or_ge k w1.heap.size with h | h
        · exact h3 k (hz.cov k (by rw [feet_cons]; exact List.mem_append.2 (.inl (Option.mem_toList.2 hk))) h)
        · omega
      · rw [feet_cons, List.nodup_append] at hnd
        refine hnd.2.2 k (Option.mem_toList.2 hk) k ?_ rfl
        rw [List.length_append, Enc.all_snoc ESl] at hk2
        exact hk2
theorem refClean_c (w : World) (F : Nat → Prop) (A : Option Addr) (n c : Nat) (gs : List (List Int)) (hr : RdG w F A n c gs) (hn : n ≤ 1000000) (hm : ∀ g ∈ gs, g.length ≤ 1000000) :
    Calls Tryd.prog 12 [.slice A n c].toArray w (RetG w (cleanF gs)) := by
  have hl := hr.len
  have hcap := hr.cap'
  refine calls (n := 64) Tryd.func12 rfl Tryd.ntmps12 rfl ?_
  refine CW.sub (H' := SH w [] []) ?_ (Sub.refl _) (fun x hx => SH.start' _ _ hx)
  refine CW.seq (CW.region ?_)
  refine RW.assign rfl rfl ?_
  refine RW.nil (EX.seq (CW.seq ?_))
  -- mq: region
  refine CW.ownNil 40 1 ?_
  refine CW.region ?_
  refine RW.assign rfl rfl ?_
  refine RW.nil (EX.seq (CW.seq (CW.seq (CW.region ?_))))
  refine RW.assign rfl rfl ?_
  refine RW.nil (EX.seq (CW.block ?_))
  -- mq: loop
  have hrS := hr.strong
  refine CW.loop (ι := Nat × Value × List SlV) (fun t => [(0, .slice A n c), (3, t.2.1), (4, .int .i64 (t.1 : Int))]) (fun t => StO w t.2.1 t.2.2 ((gs.take t.1).map cleanG)) (fun t => t.1 ≤ n ∧ t.1 ≤ 32 ∧ t.2.2.length = t.1) (fun t => n - t.1) ?_ ?_
  · exact fun w' hw' => ⟨(0, .slice none 0 0, []), ⟨Nat.zero_le _, Nat.zero_le _, rfl⟩, (by repeat (first | exact Sub.nil | refine Sub.cons (by rfl) ?_)), StO.nil hw'⟩
  · rintro ⟨k, v, ss⟩ ⟨hk, hk32, hss⟩
    dsimp only at hk hk32 hss ⊢
    refine CW.each fun w1 hst => ?_
    obtain ⟨h1, h2, h3, h4, h5⟩ := id hst
    generalize hS : feet [own 40 1 v ss.length (ESl.all ss)] = S at *
    have e1s := h2.size
    refine CW.sub (H' := SH w1 S [own 40 1 v ss.length (ESl.all ss)]) ?_ (Sub.refl _) (fun x hx => hx ▸ h1)
    have hr1 := hrS.ext h2 (by simp)
    have hin : ∀ k, k < w.heap.size → k ∉ S := fun k hk hk2 => by have := h3 k hk2; omega
    refine CW.seq (CW.seq ?_)
    -- mq: region
    refine CW.join ([(15, .bool (decide (k < n ∧ k < 32))), (0, .slice A n c), (3, v), (4, .int .i64 (k : Int))]) (SH w1 S [own 40 1 v ss.length (ESl.all ss)]) ?_ ?_
    · skip
      refine CW.region ?_
      refine RW.move rfl rfl ?_
      refine RW.move rfl rfl ?_
      refine RW.lenSl Tryd.underlying28 rfl rfl ?_
      refine RW.lss rfl rfl rfl ?_
      refine RW.move rfl rfl ?_
      -- mq: guard slot 12
      refine RW.casesB 12 rfl (fun h12 => ?_) (fun h12 => ?_)
      · skip
        have h12p := of_decide_eq_true h12
        refine RW.guardT rfl rfl h12 ?_
        refine RW.move rfl rfl ?_
        refine RW.guardT rfl rfl h12 ?_
        refine RW.lss rfl rfl rfl ?_
        refine RW.pickB rfl rfl h12 rfl ?_
        refine RW.nil ?_
        -- mq: joinend
        exact EX.jn (Sub.cons (congrArg (fun x => some (Value.bool x)) (by rw [Bool.eq_iff_iff]; simp only [decide_eq_true_eq, Bool.false_eq_true, false_iff]; omega)) (by repeat (first | exact Sub.nil | refine Sub.cons (by rfl) ?_))) (fun _ h => h)
      · skip
        have h12p := of_decide_eq_false h12
        refine RW.guardF rfl rfl rfl h12 ?_
        refine RW.guardF rfl rfl rfl h12 ?_
        refine RW.pickC rfl rfl h12 rfl ?_
        refine RW.nil ?_
        -- mq: joinend
        exact EX.jn (Sub.cons (congrArg (fun x => some (Value.bool x)) (by rw [Bool.eq_iff_iff]; simp only [decide_eq_true_eq, Bool.false_eq_true, false_iff]; omega)) (by repeat (first | exact Sub.nil | refine Sub.cons (by rfl) ?_))) (fun _ h => h)
    · skip
      refine EX.seq ?_
      -- mq: cond
      first | refine CW.condD rfl (fun hlt => ?_) (fun hlt => ?_) | refine CW.cond rfl (fun hlt => ?_) (fun hlt => ?_)
      · skip
        obtain ⟨x, hx⟩ : ∃ x, gs[k]? = some x := ⟨gs[k]'(by omega), List.getElem?_eq_getElem _⟩
        obtain ⟨ad, B, p, q, hA, had, hcell, hrd⟩ := hr1.at_ hx
        have hxl := hrd.len
        have hxm := hm x (List.mem_of_getElem? hx)
        refine CW.skip (EX.seq (CW.seq (CW.block (CW.seq ?_))))
        -- mq: region
        refine CW.ownNil 3 1 ?_
        refine CW.region ?_
        refine RW.assign rfl rfl ?_
        refine RW.nil (EX.seq (CW.seq (CW.seq (CW.region ?_))))
        refine RW.assign rfl rfl ?_
        refine RW.nil (EX.seq (CW.block ?_))
        -- mq: loop
        obtain ⟨m, hm2⟩ : ∃ m, m = min x.length 8 := ⟨_, rfl⟩
        refine CW.loop (ι := Nat × Value) (fun t => [(0, .slice A n c), (3, v), (4, .int .i64 (k : Int)), (5, t.2), (6, .int .i64 (t.1 : Int))]) (fun t => SH w1 S [own 3 1 t.2 t.1 (EInt.all ((x.take t.1).map cleanN)), own 40 1 v ss.length (ESl.all ss)]) (fun t => t.1 ≤ m) (fun t => m - t.1) ?_ ?_
        · exact fun w' hw' => ⟨(0, .slice none 0 0), Nat.zero_le _, (by repeat (first | exact Sub.nil | refine Sub.cons (by rfl) ?_)), hw'⟩
        · rintro ⟨j, u⟩ hj
          dsimp only at hj ⊢
          refine CW.seq (CW.seq ?_)
          -- mq: region
          refine CW.join ([(28, .bool (decide (j < x.length ∧ j < 8))), (0, .slice A n c), (3, v), (4, .int .i64 (k : Int)), (5, u), (6, .int .i64 (j : Int))]) (SH w1 S [own 3 1 u j (EInt.all ((x.take j).map cleanN)), own 40 1 v ss.length (ESl.all ss)]) ?_ ?_
          · skip
            refine CW.region ?_
            refine RW.move rfl rfl ?_
            refine RW.move rfl rfl ?_
            refine RW.move rfl rfl ?_
            refine RW.ixAddr (q := k) sl28 rfl rfl rfl (by first | rfl | assumption) (by omega) (by omega) ?_
            refine RW.load1 sc40 rfl rfl (fun w' hw' => hw'.base_cell hcell (by rw [block_add]; exact hin _ had.2)) ?_
            refine RW.lenSl Tryd.underlying40 rfl rfl ?_
            refine RW.lss rfl rfl rfl ?_
            refine RW.move rfl rfl ?_
            -- mq: guard slot 25
            refine RW.casesB 25 rfl (fun h25 => ?_) (fun h25 => ?_)
            · skip
              have h25p := of_decide_eq_true h25
              refine RW.guardT rfl rfl h25 ?_
              refine RW.move rfl rfl ?_
              refine RW.guardT rfl rfl h25 ?_
              refine RW.lss rfl rfl rfl ?_
              refine RW.pickB rfl rfl h25 rfl ?_
              refine RW.nil ?_
              -- mq: joinend
              exact EX.jn (Sub.cons (congrArg (fun x => some (Value.bool x)) (by rw [Bool.eq_iff_iff]; simp only [decide_eq_true_eq, Bool.false_eq_true, false_iff]; omega)) (by repeat (first | exact Sub.nil | refine Sub.cons (by rfl) ?_))) (fun _ h => h)
            · skip
              have h25p := of_decide_eq_false h25
              refine RW.guardF rfl rfl rfl h25 ?_
              refine RW.guardF rfl rfl rfl h25 ?_
              refine RW.pickC rfl rfl h25 rfl ?_
              refine RW.nil ?_
              -- mq: joinend
              exact EX.jn (Sub.cons (congrArg (fun x => some (Value.bool x)) (by rw [Bool.eq_iff_iff]; simp only [decide_eq_true_eq, Bool.false_eq_true, false_iff]; omega)) (by repeat (first | exact Sub.nil | refine Sub.cons (by rfl) ?_))) (fun _ h => h)
          · skip
            refine EX.seq ?_
            -- mq: cond
            first | refine CW.condD rfl (fun hlt2 => ?_) (fun hlt2 => ?_) | refine CW.cond rfl (fun hlt2 => ?_) (fun hlt2 => ?_)
            · skip
              obtain ⟨y, hy⟩ : ∃ y, x[j]? = some y := ⟨x[j]'(hlt2.1), List.getElem?_eq_getElem _⟩
              obtain ⟨yd, hB, hyd, hycell⟩ := hrd.at_ hy
              refine CW.skip (EX.seq (CW.seq (CW.block (CW.seq (CW.region ?_)))))
              refine RW.move rfl rfl ?_
              refine RW.move rfl rfl ?_
              refine RW.ixAddr (q := k) sl28 rfl rfl rfl (by first | rfl | assumption) (by omega) (by omega) ?_
              refine RW.load1 sc40 rfl rfl (fun w' hw' => hw'.base_cell hcell (by rw [block_add]; exact hin _ had.2)) ?_
              refine RW.move rfl rfl ?_
              refine RW.ixAddr (q := j) sl40 rfl rfl rfl (by first | rfl | assumption) (by omega) (by omega) ?_
              refine RW.load1 sc3 rfl rfl (fun w' hw' => hw'.base_cell (hycell 0 _ rfl) (by simp only [block_add]; exact hin _ hyd.2)) ?_
              refine RW.assign rfl rfl ?_
              refine RW.nil (EX.seq (CW.seq ?_))
              -- mq: seq
              refine CW.join ([(7, .int .i64 (max (-1) y)), (0, .slice A n c), (3, v), (4, .int .i64 (k : Int)), (5, u), (6, .int .i64 (j : Int))]) (SH w1 S [own 3 1 u j (EInt.all ((x.take j).map cleanN)), own 40 1 v ss.length (ESl.all ss)]) ?_ ?_
              · skip
                refine CW.seq (CW.region ?_)
                refine RW.move rfl rfl ?_
                refine RW.lss rfl rfl rfl ?_
                refine RW.nil (EX.seq ?_)
                -- mq: cond
                first | refine CW.condD rfl (fun h39 => ?_) (fun h39 => ?_) | refine CW.cond rfl (fun h39 => ?_) (fun h39 => ?_)
                · skip
                  refine CW.region ?_
                  refine RW.assign rfl rfl ?_
                  refine RW.nil ?_
                  -- mq: joinend
                  exact EX.jn (Sub.cons (congrArg (fun x => some (Value.int .i64 x)) (by omega)) (by repeat (first | exact Sub.nil | refine Sub.cons (by rfl) ?_))) (fun _ h => h)
                · skip
                  refine CW.skip ?_
                  -- mq: joinend
                  exact EX.jn (Sub.cons (congrArg (fun x => some (Value.int .i64 x)) (by omega)) (by repeat (first | exact Sub.nil | refine Sub.cons (by rfl) ?_))) (fun _ h => h)
              · skip
                refine EX.seq (CW.seq ?_)
                -- mq: seq
                refine CW.join ([(7, .int .i64 (cleanN y)), (0, .slice A n c), (3, v), (4, .int .i64 (k : Int)), (5, u), (6, .int .i64 (j : Int))]) (SH w1 S [own 3 1 u j (EInt.all ((x.take j).map cleanN)), own 40 1 v ss.length (ESl.all ss)]) ?_ ?_
                · skip
                  refine CW.seq (CW.region ?_)
                  refine RW.move rfl rfl ?_
                  refine RW.gtr rfl rfl rfl ?_
                  refine RW.nil (EX.seq ?_)
                  -- mq: cond
                  first | refine CW.condD rfl (fun h41 => ?_) (fun h41 => ?_) | refine CW.cond rfl (fun h41 => ?_) (fun h41 => ?_)
                  · skip
                    refine CW.region ?_
                    refine RW.assign rfl rfl ?_
                    refine RW.nil ?_
                    -- mq: joinend
                    exact EX.jn (Sub.cons (congrArg (fun x => some (Value.int .i64 x)) (by unfold cleanN; omega)) (by repeat (first | exact Sub.nil | refine Sub.cons (by rfl) ?_))) (fun _ h => h)
                  · skip
                    refine CW.skip ?_
                    -- mq: joinend
                    exact EX.jn (Sub.cons (congrArg (fun x => some (Value.int .i64 x)) (by unfold cleanN; omega)) (by repeat (first | exact Sub.nil | refine Sub.cons (by rfl) ?_))) (fun _ h => h)
                · skip
                  have hjm : j < 8 := hlt2.2
                  have hjx : j < x.length := hlt2.1
                  refine EX.seq (CW.region ?_)
                  refine RW.move rfl rfl ?_
                  refine RW.move rfl rfl ?_
                  refine RW.buildSlc sl40 rfl rfl rfl rfl (fun g44 hg44 hf44 => ?_)
                  refine RW.append1 sl40 rfl rfl rfl (by first | exact Rem.head | exact Rem.tail Rem.head | exact Rem.tail (Rem.tail Rem.head) | exact Rem.tail (Rem.tail (Rem.tail Rem.head)) | exact Rem.tail (Rem.tail (Rem.tail (Rem.tail Rem.head))) | exact Rem.tail (Rem.tail (Rem.tail (Rem.tail (Rem.tail Rem.head)))) | exact Rem.tail (Rem.tail (Rem.tail (Rem.tail (Rem.tail (Rem.tail Rem.head)))))) (fun _ => by first | exact Upd.head | exact Upd.tail Upd.head | exact Upd.tail (Upd.tail Upd.head) | exact Upd.tail (Upd.tail (Upd.tail Upd.head)) | exact Upd.tail (Upd.tail (Upd.tail (Upd.tail Upd.head))) | exact Upd.tail (Upd.tail (Upd.tail (Upd.tail (Upd.tail Upd.head)))) | exact Upd.tail (Upd.tail (Upd.tail (Upd.tail (Upd.tail (Upd.tail Upd.head)))))) rfl (by repeat (first | exact Ones.nil | exact Enc.ones _ _ | refine Ones.cons rfl ?_)) (by simp only [maxLen]; omega) (by omega) (fun v45 hv45 => ?_)
                  refine RW.assign rfl rfl ?_
                  refine RW.nil (EX.bkN (EX.seq (CW.region ?_)))
                  refine RW.move rfl rfl ?_
                  refine RW.add rfl rfl rfl (wrap64 (by omega) (by omega)) ?_
                  refine RW.assign rfl rfl ?_
                  refine RW.nil ?_
                  -- mq: loopend
                  refine EX.lpN (j + 1, v45) (by dsimp only; omega) (by dsimp only; omega) (by repeat (first | exact Sub.nil | refine Sub.cons (by rfl) ?_)) (fun w' hw' => ?_)
                  dsimp only
                  rw [take_snoc' hy, List.map_append, List.map_cons, List.map_nil, Enc.all_snoc EInt]
                  exact hw'
            · skip
              have hlt2' : ¬ (j < x.length ∧ j < 8) := hlt2
              have hjm : j = m := by omega
              refine CW.exit (EX.seqE (EX.lpE (EX.bkE (EX.seq (CW.seq ?_)))))
              -- mq: seq
              refine CW.joinI (fun u' : Value => [(0, .slice A n c), (3, v), (4, .int .i64 (k : Int)), (5, u')]) (fun u' => SH w1 S [own 3 1 u' (cleanG x).length (EInt.all (cleanG x)), own 40 1 v ss.length (ESl.all ss)]) (fun _ => True) ?_ ?_
              · skip
                refine CW.formOwn (v := u) Has.head (fun Au cu hvu hcapu hmaxu hlenu hgu => ?_)
                subst hvu
                refine CW.seq (CW.region ?_)
                refine RW.move rfl rfl ?_
                refine RW.lenSl Tryd.underlying40 rfl rfl ?_
                refine RW.eqlI rfl rfl rfl ?_
                refine RW.nil (EX.seq ?_)
                -- mq: cond
                first | refine CW.condD rfl (fun h48 => ?_) (fun h48 => ?_) | refine CW.cond rfl (fun h48 => ?_) (fun h48 => ?_)
                · skip
                  have hx0 : x = [] := List.eq_nil_of_length_eq_zero (by omega)
                  have hj0 : j = 0 := by omega
                  subst hj0
                  refine CW.region ?_
                  refine RW.move rfl rfl ?_
                  refine RW.buildSlc sl40 rfl rfl rfl rfl (fun g50 hg50 hf50 => ?_)
                  refine RW.append1 sl40 rfl rfl rfl (by first | exact Rem.head | exact Rem.tail Rem.head | exact Rem.tail (Rem.tail Rem.head) | exact Rem.tail (Rem.tail (Rem.tail Rem.head)) | exact Rem.tail (Rem.tail (Rem.tail (Rem.tail Rem.head))) | exact Rem.tail (Rem.tail (Rem.tail (Rem.tail (Rem.tail Rem.head)))) | exact Rem.tail (Rem.tail (Rem.tail (Rem.tail (Rem.tail (Rem.tail Rem.head)))))) (fun _ => by first | exact Upd.head | exact Upd.tail Upd.head | exact Upd.tail (Upd.tail Upd.head) | exact Upd.tail (Upd.tail (Upd.tail Upd.head)) | exact Upd.tail (Upd.tail (Upd.tail (Upd.tail Upd.head))) | exact Upd.tail (Upd.tail (Upd.tail (Upd.tail (Upd.tail Upd.head)))) | exact Upd.tail (Upd.tail (Upd.tail (Upd.tail (Upd.tail (Upd.tail Upd.head)))))) rfl (by repeat (first | exact Ones.nil | exact Enc.ones _ _ | refine Ones.cons rfl ?_)) (by simp only [maxLen]; omega) (by omega) (fun v51 hv51 => ?_)
                  refine RW.assign rfl rfl ?_
                  refine RW.nil ?_
                  -- mq: joinend
                  refine EX.jnI v51 trivial (by repeat (first | exact Sub.nil | refine Sub.cons (by rfl) ?_)) (fun w' hw' => ?_)
                  rw [cleanG, if_pos hx0]
                  exact hw'
                · skip
                  refine CW.skip ?_
                  -- mq: joinend
                  refine EX.jnI (.slice Au j cu) trivial (by repeat (first | exact Sub.nil | refine Sub.cons (by rfl) ?_)) (fun w' hw' => ?_)
                  have hG : cleanG x = (x.take j).map cleanN := by
                    rw [cleanG, if_neg (fun e => by rw [e] at hm2; simp at hm2; omega)]
                    congr 1
                    rw [hjm, hm2]
                    by_cases h : x.length ≤ 8
                    · rw [Nat.min_eq_left h, List.take_of_length_le (by omega), List.take_length]
                    · rw [Nat.min_eq_right (by omega)]
                  have hGl : (cleanG x).length = j := by rw [hG, List.length_map, List.length_take]; omega
                  rw [hGl, hG]
                  exact hw'
              · skip
                rintro u' -
                refine EX.formOwn1 (v := u') Has.head (fun Au cu hvu => ?_)
                subst hvu
                refine EX.seq (CW.region ?_)
                refine RW.move rfl rfl ?_
                refine RW.move rfl rfl ?_
                refine RW.buildSlc sl28 rfl rfl rfl rfl (fun g54 hg54 hf54 => ?_)
                refine RW.append1 sl28 rfl rfl rfl (by first | exact Rem.head | exact Rem.tail Rem.head | exact Rem.tail (Rem.tail Rem.head) | exact Rem.tail (Rem.tail (Rem.tail Rem.head)) | exact Rem.tail (Rem.tail (Rem.tail (Rem.tail Rem.head))) | exact Rem.tail (Rem.tail (Rem.tail (Rem.tail (Rem.tail Rem.head)))) | exact Rem.tail (Rem.tail (Rem.tail (Rem.tail (Rem.tail (Rem.tail Rem.head)))))) (fun _ => by first | exact Upd.head | exact Upd.tail Upd.head | exact Upd.tail (Upd.tail Upd.head) | exact Upd.tail (Upd.tail (Upd.tail Upd.head)) | exact Upd.tail (Upd.tail (Upd.tail (Upd.tail Upd.head))) | exact Upd.tail (Upd.tail (Upd.tail (Upd.tail (Upd.tail Upd.head)))) | exact Upd.tail (Upd.tail (Upd.tail (Upd.tail (Upd.tail (Upd.tail Upd.head)))))) rfl (by repeat (first | exact Ones.nil | exact Enc.ones _ _ | refine Ones.cons rfl ?_)) (by simp only [maxLen]; omega) (by omega) (fun v55 hv55 => ?_)
                refine RW.assign rfl rfl ?_
                refine RW.nil (EX.bkN (EX.seq (CW.region ?_)))
                refine RW.move rfl rfl ?_
                refine RW.add rfl rfl rfl (wrap64 (by omega) (by omega)) ?_
                refine RW.assign rfl rfl ?_
                refine RW.nil ?_
                -- mq: loopend
                refine EX.lpN (k + 1, v55, ss ++ [⟨Au, (cleanG x).length, cu⟩]) ⟨by dsimp only; omega, by dsimp only; omega, by simp [hss]⟩ (by dsimp only; omega) (by repeat (first | exact Sub.nil | refine Sub.cons (by rfl) ?_)) (fun w' hw' => ?_)
                dsimp only
                rw [take_snoc' hx, List.map_append, List.map_cons, List.map_nil]
                exact StO.step2 hS hst rfl hw'
      · skip
        have hlt' : ¬ (k < n ∧ k < 32) := hlt
        refine CW.formOwn (v := v) Has.head (fun A3 c3 hv3 hcap3 hmax3 hlen3 hg3 => ?_)
        subst hv3
        refine CW.exit (EX.seqE (EX.lpE (EX.bkE (EX.seq (CW.seq (CW.seq (CW.region ?_)))))))
        refine RW.move rfl rfl ?_
        refine RW.lenSl Tryd.underlying28 rfl rfl ?_
        refine RW.eqlI rfl rfl rfl ?_
        refine RW.nil (EX.seq ?_)
        -- mq: cond
        first | refine CW.condD rfl (fun h58 => ?_) (fun h58 => ?_) | refine CW.cond rfl (fun h58 => ?_) (fun h58 => ?_)
        · skip
          have hs0 : ss.length = 0 := by omega
          have hg0 : gs = [] := List.eq_nil_of_length_eq_zero (by omega)
          have hss0 : ss = [] := List.eq_nil_of_length_eq_zero hs0
          refine CW.region ?_
          refine RW.move rfl rfl ?_
          refine RW.buildSlc sl40 rfl rfl rfl rfl (fun g60 hg60 hf60 => ?_)
          refine RW.buildSlc sl28 rfl rfl rfl rfl (fun g61 hg61 hf61 => ?_)
          refine RW.append1 sl28 rfl rfl rfl (by first | exact Rem.head | exact Rem.tail Rem.head | exact Rem.tail (Rem.tail Rem.head) | exact Rem.tail (Rem.tail (Rem.tail Rem.head)) | exact Rem.tail (Rem.tail (Rem.tail (Rem.tail Rem.head))) | exact Rem.tail (Rem.tail (Rem.tail (Rem.tail (Rem.tail Rem.head)))) | exact Rem.tail (Rem.tail (Rem.tail (Rem.tail (Rem.tail (Rem.tail Rem.head)))))) (fun _ => by first | exact Upd.head | exact Upd.tail Upd.head | exact Upd.tail (Upd.tail Upd.head) | exact Upd.tail (Upd.tail (Upd.tail Upd.head)) | exact Upd.tail (Upd.tail (Upd.tail (Upd.tail Upd.head))) | exact Upd.tail (Upd.tail (Upd.tail (Upd.tail (Upd.tail Upd.head)))) | exact Upd.tail (Upd.tail (Upd.tail (Upd.tail (Upd.tail (Upd.tail Upd.head)))))) rfl (by repeat (first | exact Ones.nil | exact Enc.ones _ _ | refine Ones.cons rfl ?_)) (by simp only [maxLen]; omega) (by omega) (fun v62 hv62 => ?_)
          refine RW.assign rfl rfl ?_
          refine RW.nil (EX.seq (CW.seq (CW.region ?_)))
          refine RW.move rfl rfl ?_
          refine RW.assign rfl rfl ?_
          refine RW.nil (EX.seq (CW.ret ?_))
          refine EX.fin1 Tryd.results12 rfl (fun wz hw => ?_)
          -- mq: done
          subst hg0
          subst hss0
          have hw2 := hw.ownBlk (m := 1) (sz := 1) (by first | exact Upd.head | exact Upd.tail Upd.head | exact Upd.tail (Upd.tail Upd.head) | exact Upd.tail (Upd.tail (Upd.tail Upd.head)) | exact Upd.tail (Upd.tail (Upd.tail (Upd.tail Upd.head))) | exact Upd.tail (Upd.tail (Upd.tail (Upd.tail (Upd.tail Upd.head)))) | exact Upd.tail (Upd.tail (Upd.tail (Upd.tail (Upd.tail (Upd.tail Upd.head)))))) rfl (by decide)
          have hst2 := StO.step2 (g := [-1]) hS hst rfl hw2
          obtain ⟨A6, c6, he6, h7, h8⟩ := StO.ret hst2
          rw [cleanF, if_pos rfl]
          exact ⟨_, _, _, congrArg _ he6, h7, by simpa using h8⟩
        · skip
          refine CW.skip (EX.seq (CW.seq (CW.region ?_)))
          refine RW.move rfl rfl ?_
          refine RW.assign rfl rfl ?_
          refine RW.nil (EX.seq (CW.ret ?_))
          refine EX.fin1 Tryd.results12 rfl (fun wz hw => ?_)
          -- mq: done
          have hres : cleanF gs = (gs.take k).map cleanG := by
            rw [cleanF, if_neg (fun e => by rw [e] at hl; simp at hl; omega)]
            congr 1
            by_cases h : n ≤ 32
            · rw [List.take_of_length_le (by omega), List.take_of_length_le (by omega)]
            · rw [show k = 32 by omega]
          subst hS
          obtain ⟨A6, c6, he6, h7, h8⟩ := StO.ret (StO.later hst hw)
          rw [hres]
          exact ⟨_, _, _, congrArg _ he6, h7, h8⟩
def greatB (gs : List (List Int)) : Bool := decide (60 < gs.length) || gs.any (fun g => decide (20 < g.length))
theorem Great_c (w : World) (F : Nat → Prop) (A : Option Addr) (n c : Nat) (gs : List (List Int)) (hr : RdG w F A n c gs) :
    Calls Tryd.prog 11 [.slice A n c].toArray w (fun e w' => e = .returned (.bool (greatB gs)) ∧ Ext [] w w') := by
  have hl := hr.len
  refine calls (n := 19) Tryd.func11 rfl Tryd.ntmps11 rfl ?_
  refine CW.sub (H' := SH w [] []) ?_ (Sub.refl _) (fun x hx => SH.start' _ _ hx)
  refine CW.seq (CW.region ?_)
  refine RW.assign rfl rfl ?_
  refine RW.nil (EX.seq (CW.seq (CW.seq (CW.region ?_))))
  refine RW.move rfl rfl ?_
  refine RW.lenSl Tryd.underlying28 rfl rfl ?_
  refine RW.gtr rfl rfl rfl ?_
  refine RW.nil (EX.seq ?_)
  -- mq: cond
  first | refine CW.condD rfl (fun h6 => ?_) (fun h6 => ?_) | refine CW.cond rfl (fun h6 => ?_) (fun h6 => ?_)
  · skip
    refine CW.seq (CW.region ?_)
    refine RW.assign rfl rfl ?_
    refine RW.nil (EX.seq (CW.ret (EX.seqR ?_)))
    refine EX.fin1 Tryd.results11 rfl (fun wz hw => ?_)
    -- mq: done
    exact ⟨by rw [greatB, decide_eq_true (by omega)]; rfl, hw.ext⟩
  · skip
    refine CW.skip (EX.seq (CW.seq (CW.seq (CW.region ?_))))
    refine RW.assign rfl rfl ?_
    refine RW.nil (EX.seq (CW.block ?_))
    -- mq: loop
    refine CW.loop (ι := Nat) (fun k => [(0, .slice A n c), (3, .int .i64 (k : Int))]) (fun _ => SH w [] []) (fun k => k ≤ n ∧ ∀ g ∈ gs.take k, g.length ≤ 20) (fun k => n - k) ?_ ?_
    · exact fun w hw => ⟨0, ⟨Nat.zero_le _, by simp⟩, (by repeat (first | exact Sub.nil | refine Sub.cons (by rfl) ?_)), hw⟩
    · rintro k ⟨hk, hall⟩
      refine CW.seq (CW.seq (CW.region ?_))
      refine RW.move rfl rfl ?_
      refine RW.move rfl rfl ?_
      refine RW.lenSl Tryd.underlying28 rfl rfl ?_
      refine RW.lss rfl rfl rfl ?_
      refine RW.nil (EX.seq ?_)
      -- mq: cond
      first | refine CW.condD rfl (fun hlt => ?_) (fun hlt => ?_) | refine CW.cond rfl (fun hlt => ?_) (fun hlt => ?_)
      · skip
        obtain ⟨g, hg⟩ : ∃ g, gs[k]? = some g := ⟨gs[k]'(by omega), List.getElem?_eq_getElem _⟩
        obtain ⟨ad, X, p, q, hA, _, hcell, hrd⟩ := hr.at_ hg
        have hgl := hrd.len
        refine CW.skip (EX.seq (CW.seq (CW.block (CW.seq (CW.region ?_)))))
        refine RW.move rfl rfl ?_
        refine RW.move rfl rfl ?_
        refine RW.ixAddr (q := k) sl28 rfl rfl rfl (by first | rfl | assumption) (by omega) (by omega) ?_
        refine RW.load1 sc40 rfl rfl (fun w' hw' => hw'.base_cell hcell (by simp)) ?_
        refine RW.lenSl Tryd.underlying40 rfl rfl ?_
        refine RW.gtr rfl rfl rfl ?_
        refine RW.nil (EX.seq ?_)
        -- mq: cond
        first | refine CW.condD rfl (fun h18 => ?_) (fun h18 => ?_) | refine CW.cond rfl (fun h18 => ?_) (fun h18 => ?_)
        · skip
          refine CW.seq (CW.region ?_)
          refine RW.assign rfl rfl ?_
          refine RW.nil (EX.seq (CW.ret (EX.bkR (EX.seqR (EX.lpR (EX.bkR (EX.seqR ?_)))))))
          refine EX.fin1 Tryd.results11 rfl (fun wz hw => ?_)
          -- mq: done
          refine ⟨?_, hw.ext⟩
          rw [greatB, Bool.or_comm, List.any_eq_true.2 ⟨g, List.mem_of_getElem? hg, decide_eq_true (by omega)⟩]; rfl
        · skip
          refine CW.skip (EX.bkN (EX.seq (CW.region ?_)))
          refine RW.move rfl rfl ?_
          refine RW.add rfl rfl rfl (wrap64 (by omega) (by omega)) ?_
          refine RW.assign rfl rfl ?_
          refine RW.nil ?_
          -- mq: loopend
          refine EX.lpN (k + 1) ⟨by omega, fun g' hg' => ?_⟩ (by omega) (by repeat (first | exact Sub.nil | refine Sub.cons (by rfl) ?_)) (fun w' hw' => hw')
          rw [take_snoc' hg] at hg'
          rcases List.mem_append.1 hg' with h | h
          · exact hall g' h
          · rw [List.mem_singleton.1 h]; omega
      · skip
        refine CW.exit (EX.seqE (EX.lpE (EX.bkE (EX.seq (CW.seq (CW.region ?_))))))
        refine RW.assign rfl rfl ?_
        refine RW.nil (EX.seq (CW.ret ?_))
        refine EX.fin1 Tryd.results11 rfl (fun wz hw => ?_)
        -- mq: done
        refine ⟨?_, hw.ext⟩
        rw [List.take_of_length_le (by omega)] at hall
        rw [greatB, decide_eq_false (by omega), Bool.false_or]
        congr 2
        symm
        rw [List.any_eq_false]
        intro g hg
        have := hall g hg
        simp; omega
theorem greatB_false {gs : List (List Int)} (h : greatB gs = false) : gs.length ≤ 60 ∧ ∀ g ∈ gs, g.length ≤ 20 := by
  simp only [greatB, Bool.or_eq_false_iff, decide_eq_false_iff_not, List.any_eq_false, decide_eq_true_eq] at h
  exact ⟨by omega, fun g hg => by have := h.2 g hg; omega⟩
theorem cleanF_head (gs : List (List Int)) : ∀ g ∈ cleanF gs, ∃ y t, g = y :: t ∧ -1 ≤ y ∧ y ≤ 65535 := by
  have hc : ∀ x : List Int, ∃ y t, cleanG x = y :: t ∧ -1 ≤ y ∧ y ≤ 65535 := fun x => by
    unfold cleanG
    split
    · exact ⟨-1, [], rfl, by omega, by omega⟩
    · rename_i h
      cases x with
      | nil => exact absurd rfl h
      | cons a x => exact ⟨cleanN a, _, rfl, by unfold cleanN; omega, by unfold cleanN; omega⟩
  intro g hg
  unfold cleanF at hg
  split at hg
  · rw [List.mem_singleton.1 hg]; exact ⟨-1, [], rfl, by omega, by omega⟩
  · obtain ⟨x, _, rfl⟩ := List.mem_map.1 hg
    exact hc x
end Go.Proofs.YtojfodeienchfaaDoor.Mq
