/- walks: groups in rows; clean, group, Clean; Ints, Same -/
import Derived.Test.YtjplfonmdjnplaaDoorPm3
namespace Go.Proofs.YtjplfonmdjnplaaDoor.Mq
open Go Go.RowKit Go.Proofs

theorem RdG.len {w : World} {F : Nat → Prop} {A : Option Addr} {n c : Nat} {gs : List (List Int)} (h : RdG w F A n c gs) : gs.length = n := by
  obtain ⟨ss, h1, h2, _⟩ := h
  rw [← h2]; exact h1.len
theorem RdG.cap' {w : World} {F : Nat → Prop} {A : Option Addr} {n c : Nat} {gs : List (List Int)} (h : RdG w F A n c gs) : n ≤ c ∧ c ≤ maxLen := by
  obtain ⟨ss, h1, h2, _⟩ := h
  exact ⟨h1.cap, h1.max⟩
theorem RdG.ext {S : List Nat} {w w' : World} {F : Nat → Prop} {A : Option Addr} {n c : Nat} {gs : List (List Int)} (h : RdG w F A n c gs) (he : Ext S w w') (hs : ∀ k, F k → k ∉ S) : RdG w' F A n c gs := by
  obtain ⟨ss, h1, h2, h3⟩ := h
  exact ⟨ss, h1.ext he hs, h2, fun k s g hk hg => (h3 k s g hk hg).ext he hs⟩
theorem RdG.weak {w : World} {F F' : Nat → Prop} {A : Option Addr} {n c : Nat} {gs : List (List Int)} (h : RdG w F A n c gs) (hF : ∀ k, F k → F' k) : RdG w F' A n c gs := by
  obtain ⟨ss, h1, h2, h3⟩ := h
  exact ⟨ss, h1.weak hF, h2, fun k s g hk hg => (h3 k s g hk hg).weak hF⟩
theorem RdG.strong {w : World} {F : Nat → Prop} {A : Option Addr} {n c : Nat} {gs : List (List Int)} (h : RdG w F A n c gs) : RdG w (fun k => F k ∧ k < w.heap.size) A n c gs := by
  obtain ⟨ss, h1, h2, h3⟩ := h
  exact ⟨ss, h1.strong (by decide), h2, fun k s g hk hg => (h3 k s g hk hg).strong (by decide)⟩
theorem RdG.at_ {w : World} {F : Nat → Prop} {A : Option Addr} {n c : Nat} {gs : List (List Int)} (h : RdG w F A n c gs) {k : Nat} {g : List Int} (hk : gs[k]? = some g) :
    ∃ ad B m d, A = some ad ∧ F ad.block ∧ w.cell? (ad.add (k * 1)) = some (.slice B m d) ∧ Rd EInt w F B m d g := by
  obtain ⟨ss, h1, h2, h3⟩ := h
  have hlt := (List.getElem?_eq_some_iff.1 hk).1
  obtain ⟨s, hs⟩ : ∃ s, ss[k]? = some s := ⟨ss[k]'(by omega), List.getElem?_eq_getElem _⟩
  obtain ⟨ad, hA, hF, hc⟩ := h1.at_ hs
  refine ⟨ad, s.A, s.n, s.c, hA, hF, ?_, h3 k s g hs hk⟩
  have := hc 0 (.slice s.A s.n s.c) rfl
  simpa [ESl, Addr.add] using this
theorem RdG.cut {w : World} {F : Nat → Prop} {A : Option Addr} {n c : Nat} {gs : List (List Int)} (h : RdG w F A n c gs) {p q : Nat} (hp : p ≤ q) (hq : q ≤ n) : RdG w F (if c = p then A else A.map (·.add (p * 1))) (q - p) (c - p) ((gs.take q).drop p) := by
  obtain ⟨ss, h1, h2, h3⟩ := h
  refine ⟨(ss.take q).drop p, h1.cut hp hq, by simp [h2], fun k s g hk hg => ?_⟩
  rw [List.getElem?_drop, List.getElem?_take] at hk hg
  split at hk
  · rename_i hlt
    rw [if_pos hlt] at hg
    exact h3 _ s g hk hg
  · cases hk
theorem RdG.nil (w : World) (F : Nat → Prop) : RdG w F none 0 0 [] := ⟨[], Rd.nil ESl w F 0 (by decide) none, rfl, by simp⟩
def RetG (w : World) (gs : List (List Int)) : Ending → World → Prop := fun e w' => ∃ A n c, e = .returned (.slice A n c) ∧ Ext [] w w' ∧ RdG w' (fun k => w.heap.size ≤ k) A n c gs
def IsG (gs : List (List Int)) (w : World) (v : Value) (w' : World) : Prop := ∃ A n c, v = .slice A n c ∧ RdG w' (fun k => w.heap.size ≤ k) A n c gs
theorem RetG.toA {w w' : World} {gs : List (List Int)} {e : Ending} (h : RetG w gs e w') : RetA (IsG gs w) w e w' := by
  obtain ⟨A, n, c, rfl, h1, h2⟩ := h
  exact ⟨_, rfl, h1, A, n, c, rfl, h2⟩
/-- rows of groups that grow -/
def StO (w : World) (v : Value) (ss : List SlV) (gs : List (List Int)) (w' : World) : Prop :=
  SH w' (feet [own 44 1 v ss.length (ESl.all ss)]) [own 44 1 v ss.length (ESl.all ss)] w' ∧ Ext [] w w' ∧ (∀ k ∈ feet [own 44 1 v ss.length (ESl.all ss)], w.heap.size ≤ k) ∧ ss.length = gs.length ∧
    ∀ (k : Nat) (s : SlV) (g : List Int), ss[k]? = some s → gs[k]? = some g → Rd EInt w' (fun k => w.heap.size ≤ k ∧ k ∉ feet [own 44 1 v ss.length (ESl.all ss)]) s.A s.n s.c g
theorem StO.step {w w1 w3 wz : World} {v v' : Value} {ss : List SlV} {gs : List (List Int)} {s : SlV} {g : List Int} {S : List Nat} (hS : feet [own 44 1 v ss.length (ESl.all ss)] = S) (h : StO w v ss gs w1) (hx : Ext S w1 w3)
    (hz : SH w3 S [own 44 1 v' (ss.length + 1) (ESl.all ss ++ ESl.enc s)] wz) (hr : Rd EInt w3 (fun k => w.heap.size ≤ k ∧ k ∉ S) s.A s.n s.c g) : StO w v' (ss ++ [s]) (gs ++ [g]) wz := by
  obtain ⟨h1, h2, h3, h4, h5⟩ := h
  rw [hS] at h3 h5
  have hz2 : SH w3 S [own 44 1 v' (ss ++ [s]).length (ESl.all (ss ++ [s]))] wz := by
    rw [List.length_append, Enc.all_snoc ESl]; exact hz
  have e1 := h2.size
  have e2 := hx.size
  have hnb : ∀ k, k ∈ feet [own 44 1 v' (ss ++ [s]).length (ESl.all (ss ++ [s]))] → k ∈ S ∨ w3.heap.size ≤ k := fun k hk => by
    rcases Nat.lt_or_ge k w3.heap.size with h | h
    · exact .inl (hz2.cov k hk h)
    · exact .inr h
  have hxz : Ext S w1 wz := hx.trans hz2.ext (fun x hx _ => hx)
  refine ⟨hz2.rebase, h2.trans hxz (fun x hx hlt => absurd (h3 x hx) (by omega)), fun k hk => ?_, by simp [h4], fun k s' g' hs hg => ?_⟩
  · rcases hnb k hk with h | h
    · exact h3 k h
    · omega
  · by_cases hkl : k < ss.length
    · rw [List.getElem?_append_left hkl] at hs
      rw [List.getElem?_append_left (by omega)] at hg
      exact (((h5 k s' g' hs hg).strong (by decide)).ext hxz (fun k hk => hk.1.2)).weak (fun k hk => ⟨hk.1.1, fun hk2 => by
        rcases hnb k hk2 with h | h
        · exact hk.1.2 h
        · have := hk.2; omega⟩)
    · have hk2 : k = ss.length := by
        have := (List.getElem?_eq_some_iff.1 hs).1
        simp at this; omega
      subst hk2
      rw [List.getElem?_append_right (Nat.le_refl _), Nat.sub_self] at hs
      rw [List.getElem?_append_right (by omega), h4, Nat.sub_self] at hg
      simp only [List.getElem?_cons_zero, Option.some.injEq] at hs hg
      subst hs; subst hg
      exact ((hr.strong (by decide)).ext hz2.ext (fun k hk => hk.1.2)).weak (fun k hk => ⟨hk.1.1, fun hk2 => by
        rcases hnb k hk2 with h | h
        · exact hk.1.2 h
        · have := hk.2; omega⟩)
theorem StO.ret {w w' : World} {v : Value} {ss : List SlV} {gs : List (List Int)} (h : StO w v ss gs w') : ∃ A c, v = .slice A ss.length c ∧ Ext [] w w' ∧ RdG w' (fun k => w.heap.size ≤ k) A ss.length c gs := by
  obtain ⟨h1, h2, h3, h4, h5⟩ := h
  obtain ⟨A, c, he, hrd⟩ := Rd.of_own (E := ESl) (h1.has Has.head) rfl
  exact ⟨A, c, he, h2, ss, hrd.weak (fun k hk => h3 k (by rw [feet_cons]; exact List.mem_append.2 (.inl (Option.mem_toList.2 hk)))), h4, fun k s g hs hg => (h5 k s g hs hg).weak (fun k hk => hk.1)⟩
theorem StO.nil {w w' : World} (h : SH w [] [own 44 1 (.slice none 0 0) 0 []] w') : StO w (.slice none 0 0) [] [] w' :=
  ⟨h.rebase, h.ext, fun k hk => by simp [feet, own, Value.ownBlock] at hk, rfl, by simp⟩
theorem StO.ext {w w1 w2 : World} {v : Value} {ss : List SlV} {gs : List (List Int)} (h : StO w v ss gs w1) (hx : Ext [] w1 w2) : StO w v ss gs w2 := by
  obtain ⟨h1, h2, h3, h4, h5⟩ := h
  exact ⟨(h1.keep hx).rebase, h2.trans0 hx, h3, h4, fun k s g hs hg => (h5 k s g hs hg).ext hx (by simp)⟩
theorem StO.later {w w1 wz : World} {v : Value} {ss : List SlV} {gs : List (List Int)} (h : StO w v ss gs w1) (hz : SH w1 (feet [own 44 1 v ss.length (ESl.all ss)]) [own 44 1 v ss.length (ESl.all ss)] wz) : StO w v ss gs wz := by
  obtain ⟨h1, h2, h3, h4, h5⟩ := h
  have e1 := h2.size
  exact ⟨hz.rebase, h2.trans hz.ext (fun x hx hlt => absurd (h3 x hx) (by omega)), h3, h4, fun k s g hs hg => (h5 k s g hs hg).ext hz.ext (fun k hk => hk.2)⟩
theorem EX.formOwn1 {Q : Post} {l : Fr} {b : World} {S : List Nat} {cs : List Chunk} {e sz m : Nat} {v : Value} {xs : List Value} (hb : Has cs (own e sz v m xs)) (h : ∀ A c', v = .slice A m c' → EX Q .normal l (SH b S cs)) : EX Q .normal l (SH b S cs) := by
  intro w hw
  have := hw.has hb
  rcases this.2 with ⟨rfl, h0⟩ | ⟨g, cap, cur, rfl, _⟩
  · exact h none 0 (by rw [h0]) w hw
  · exact h _ _ rfl w hw
def cleanN (n : Int) : Int := max (-1) (min n 65535)
def cleanG (g : List Int) : List Int := if g = [] then [-1] else (g.take 8).map cleanN
def cleanF (gs : List (List Int)) : List (List Int) := if gs = [] then [[-1]] else (gs.take 32).map cleanG
theorem Ints_c (w : World) (F G : Nat → Prop) (A B : Option Addr) (n m c d : Nat) (l : List Int) (hx : Rd EInt w F A n c l) (hy : Rd EInt w G B m d l) (hn : n ≤ 1000000) :
    Calls Tryd.prog 31 [.slice A n c, .slice B m d].toArray w (fun e w' => e = .returned (.bool true) ∧ Ext [] w w') := by
  have hlx := hx.len
  obtain rfl : n = m := hlx.symm.trans hy.len
  refine calls (n := 26) Tryd.func31 rfl Tryd.ntmps31 rfl ?_
  refine CW.sub (H' := SH w [] []) ?_ (Sub.refl _) (fun x hx => SH.start' _ _ hx)
  refine CW.seq (CW.region ?_)
  refine RW.assign rfl rfl ?_
  refine RW.nil (EX.seq (CW.seq (CW.seq (CW.region ?_))))
  refine RW.move rfl rfl ?_
  refine RW.lenSl Tryd.underlying44 rfl rfl ?_
  refine RW.move rfl rfl ?_
  refine RW.lenSl Tryd.underlying44 rfl rfl ?_
  refine RW.neqI rfl rfl rfl ?_
  refine RW.nil (EX.seq ?_)
  -- mq: cond
  refine CW.condF rfl ((by simp)) ?_
  refine CW.skip (EX.seq (CW.seq (CW.seq (CW.region ?_))))
  refine RW.assign rfl rfl ?_
  refine RW.nil (EX.seq (CW.block ?_))
  -- mq: loop
  refine CW.loop (ι := Nat) (fun k => [(0, .slice A n c), (1, .slice B n d), (5, .int .i64 (k : Int))]) (fun _ => SH w [] []) (fun k => k ≤ n) (fun k => n - k) ?_ ?_
  · exact fun w hw => ⟨0, Nat.zero_le _, (by repeat (first | exact Sub.nil | refine Sub.cons (by rfl) ?_)), hw⟩
  · rintro k hk
    refine CW.seq (CW.seq (CW.region ?_))
    refine RW.move rfl rfl ?_
    refine RW.move rfl rfl ?_
    refine RW.lenSl Tryd.underlying44 rfl rfl ?_
    refine RW.lss rfl rfl rfl ?_
    refine RW.nil (EX.seq ?_)
    -- mq: cond
    first | refine CW.condD rfl (fun hlt => ?_) (fun hlt => ?_) | refine CW.cond rfl (fun hlt => ?_) (fun hlt => ?_)
    · skip
      obtain ⟨p, hp⟩ : ∃ p, l[k]? = some p := ⟨l[k]'(by omega), List.getElem?_eq_getElem _⟩
      obtain ⟨ad, hA, _, hcell⟩ := hx.at_ hp
      obtain ⟨bd, hB, _, hcell2⟩ := hy.at_ hp
      refine CW.skip (EX.seq (CW.seq (CW.block (CW.seq ?_))))
      refine CW.drawq mixed (by kernel_rfl) (fun _ hw => hw.drew) ?_
      refine DRq.cons rfl (RW.move rfl rfl RW.jn) ?_
      refine DRq.cons rfl (RW.move rfl rfl RW.jn) ?_
      refine DRq.cons rfl (RW.ixAddr (q := k) sl44 rfl rfl rfl (by first | rfl | assumption) (by omega) (by omega) RW.jn) ?_
      refine DRq.cons rfl (RW.load1 sc3 rfl rfl (fun w' hw' => hw'.base_cell (hcell 0 _ rfl) (by simp)) RW.jn) ?_
      refine DRq.cons rfl (RW.move rfl rfl RW.jn) ?_
      refine DRq.cons rfl (RW.move rfl rfl RW.jn) ?_
      refine DRq.cons rfl (RW.ixAddr (q := k) sl44 rfl rfl rfl (by first | rfl | assumption) (by omega) (by omega) RW.jn) ?_
      refine DRq.cons rfl (RW.load1 sc3 rfl rfl (fun w' hw' => hw'.base_cell (hcell2 0 _ rfl) (by simp)) RW.jn) ?_
      refine DRq.cons rfl (RW.neqI rfl rfl rfl RW.jn) ?_
      refine DRq.nil (EX.seq ?_)
      -- mq: cond
      refine CW.condF rfl ((by simp)) ?_
      refine CW.skip (EX.bkN (EX.seq (CW.region ?_)))
      refine RW.move rfl rfl ?_
      refine RW.add rfl rfl rfl (wrap64 (by omega) (by omega)) ?_
      refine RW.assign rfl rfl ?_
      refine RW.nil ?_
      -- mq: loopend
      exact EX.lpN (k + 1) (by omega) (by omega) (by repeat (first | exact Sub.nil | refine Sub.cons (by rfl) ?_)) (fun w' hw' => hw')
    · skip
      refine CW.exit (EX.seqE (EX.lpE (EX.bkE (EX.seq (CW.seq (CW.region ?_))))))
      refine RW.assign rfl rfl ?_
      refine RW.nil (EX.seq (CW.ret ?_))
      refine EX.fin1 Tryd.results31 rfl (fun wz hw => ?_)
      -- mq: done
      exact ⟨rfl, hw.ext⟩
theorem Same_c (w : World) (F G : Nat → Prop) (A B : Option Addr) (n m c d : Nat) (gs : List (List Int)) (hx : RdG w F A n c gs) (hy : RdG w G B m d gs) (hn : n ≤ 1000000) (hm : ∀ g ∈ gs, g.length ≤ 1000000) :
    Calls Tryd.prog 17 [.slice A n c, .slice B m d].toArray w (fun e w' => e = .returned (.bool true) ∧ Ext [] w w') := by
  have hlx := hx.len
  obtain rfl : n = m := hlx.symm.trans hy.len
  refine calls (n := 27) Tryd.func17 rfl Tryd.ntmps17 rfl ?_
  refine CW.sub (H' := SH w [] []) ?_ (Sub.refl _) (fun x hx => SH.start' _ _ hx)
  refine CW.seq (CW.region ?_)
  refine RW.assign rfl rfl ?_
  refine RW.nil (EX.seq (CW.seq (CW.seq (CW.region ?_))))
  refine RW.move rfl rfl ?_
  refine RW.lenSl Tryd.underlying36 rfl rfl ?_
  refine RW.move rfl rfl ?_
  refine RW.lenSl Tryd.underlying36 rfl rfl ?_
  refine RW.neqI rfl rfl rfl ?_
  refine RW.nil (EX.seq ?_)
  -- mq: cond
  refine CW.condF rfl ((by simp)) ?_
  refine CW.skip (EX.seq (CW.seq (CW.seq (CW.region ?_))))
  refine RW.assign rfl rfl ?_
  refine RW.nil (EX.seq (CW.block ?_))
  -- mq: loop
  refine CW.loop (ι := Nat) (fun k => [(0, .slice A n c), (1, .slice B n d), (5, .int .i64 (k : Int))]) (fun _ => SH w [] []) (fun k => k ≤ n) (fun k => n - k) ?_ ?_
  · exact fun w hw => ⟨0, Nat.zero_le _, (by repeat (first | exact Sub.nil | refine Sub.cons (by rfl) ?_)), hw⟩
  · rintro k hk
    refine CW.seq (CW.seq (CW.region ?_))
    refine RW.move rfl rfl ?_
    refine RW.move rfl rfl ?_
    refine RW.lenSl Tryd.underlying36 rfl rfl ?_
    refine RW.lss rfl rfl rfl ?_
    refine RW.nil (EX.seq ?_)
    -- mq: cond
    first | refine CW.condD rfl (fun hlt => ?_) (fun hlt => ?_) | refine CW.cond rfl (fun hlt => ?_) (fun hlt => ?_)
    · skip
      obtain ⟨g, hg⟩ : ∃ g, gs[k]? = some g := ⟨gs[k]'(by omega), List.getElem?_eq_getElem _⟩
      obtain ⟨ad, X, p, q, hA, _, hcell, hrd⟩ := hx.at_ hg
      obtain ⟨bd, Y, p', q', hB, _, hcell2, hrd2⟩ := hy.at_ hg
      have hp := hrd.len
      have hgm := hm g (List.mem_of_getElem? hg)
      refine CW.skip (EX.seq (CW.seq (CW.block (CW.seq ?_))))
      refine CW.drawq mixed (by kernel_rfl) (fun _ hw => hw.drew) ?_
      refine DRq.cons rfl (RW.move rfl rfl RW.jn) ?_
      refine DRq.cons rfl (RW.move rfl rfl RW.jn) ?_
      refine DRq.cons rfl (RW.ixAddr (q := k) sl36 rfl rfl rfl (by first | rfl | assumption) (by omega) (by omega) RW.jn) ?_
      refine DRq.cons rfl (RW.load1 sc44 rfl rfl (fun w' hw' => hw'.base_cell hcell (by simp)) RW.jn) ?_
      refine DRq.cons rfl (RW.move rfl rfl RW.jn) ?_
      refine DRq.cons rfl (RW.move rfl rfl RW.jn) ?_
      refine DRq.cons rfl (RW.ixAddr (q := k) sl36 rfl rfl rfl (by first | rfl | assumption) (by omega) (by omega) RW.jn) ?_
      refine DRq.cons rfl (RW.load1 sc44 rfl rfl (fun w' hw' => hw'.base_cell hcell2 (by simp)) RW.jn) ?_
      refine DRq.cons rfl (RW.call rfl ca31 rfl (fun w' hw' => Ints_c w' _ _ _ _ _ _ _ _ g (hrd.ext hw'.ext (by simp)) (hrd2.ext hw'.ext (by simp)) (by omega)) RW.jn) ?_
      refine DRq.cons rfl (RW.not_ rfl rfl RW.jn) ?_
      refine DRq.nil (EX.seq ?_)
      -- mq: cond
      refine CW.condF rfl ((by simp)) ?_
      refine CW.skip (EX.bkN (EX.seq (CW.region ?_)))
      refine RW.move rfl rfl ?_
      refine RW.add rfl rfl rfl (wrap64 (by omega) (by omega)) ?_
      refine RW.assign rfl rfl ?_
      refine RW.nil ?_
      -- mq: loopend
      exact EX.lpN (k + 1) (by omega) (by omega) (by repeat (first | exact Sub.nil | refine Sub.cons (by rfl) ?_)) (fun w' hw' => hw')
    · skip
      refine CW.exit (EX.seqE (EX.lpE (EX.bkE (EX.seq (CW.seq (CW.region ?_))))))
      refine RW.assign rfl rfl ?_
      refine RW.nil (EX.seq (CW.ret ?_))
      refine EX.fin1 Tryd.results17 rfl (fun wz hw => ?_)
      -- mq: done
      exact ⟨rfl, hw.ext⟩
theorem take_snoc' {α : Type} {l : List α} {k : Nat} {a : α} (h : l[k]? = some a) : l.take (k + 1) = l.take k ++ [a] := by rw [List.take_add_one, h]; rfl
theorem CW.each {P : Program} {n : Nat} {c : Code} {Q : Post} {l : Fr} {H : World → Prop} (h : ∀ w, H w → CW P n c Q l (fun x => x = w)) : CW P n c Q l H :=
  fun w hw a ha => h w hw w rfl a ha
end Go.Proofs.YtjplfonmdjnplaaDoor.Mq
