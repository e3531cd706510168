/- osc: the reference's digit, Unescape, Escape, cut, starts, Code, Field -/
import Derived.Test.YtemcblinkicblaaDoorO4
namespace Go.Proofs.YtemcblinkicblaaDoor.Mq
open Go Go.RowKit Go.Proofs

theorem take37 (c : UInt8) : (0 ≤ hexI c → takeL [37, 48, c] = ([twoU 48 c], true)) ∧ (¬ 0 ≤ hexI c → (takeL [37, 48, c]).2 = false) := by
  constructor
  · intro h
    rw [takeL_hex (by decide) h]
    rfl
  · intro h
    rw [takeL_bad (fun a b u e hh => h (by
      have e1 := (List.cons.inj e).2
      have e2 := (List.cons.inj e1).1
      rw [e2]; exact hh.2))]
theorem two48 {c : UInt8} (h : 0 ≤ hexI c) : ((twoU 48 c).toNat : Int) = hexI c := by
  have hr := hexI_range c
  unfold twoU
  rw [show hexI 48 = 0 by decide, UInt8.toNat_ofNat']
  omega
theorem dig17_c (w : World) (c : UInt8) :
    Calls Tryd.prog 36 [.int .u8 (c.toNat : Int)].toArray w (fun e w' => e = .returned (.int .i64 (hexI c)) ∧ Ext [] w w') := by
  have hc8 := UInt8.toNat_lt c
  have hr := hexI_range c
  have h8 := UInt8.toNat_lt (twoU 48 c)
  obtain ⟨k1, k2⟩ := take37 c
  refine calls (n := 23) Tryd.func36 rfl Tryd.ntmps36 rfl ?_
  refine CW.sub (H' := SH w [] []) ?_ (Sub.refl _) (fun x hx => SH.start' _ _ hx)
  refine CW.seq (CW.region ?_)
  refine RW.assign rfl rfl ?_
  refine RW.nil (EX.seq (CW.seq ?_))
  -- mq: region
  refine CW.region ?_
  refine RW.move rfl rfl ?_
  refine RW.buildSlc sl56 rfl rfl rfl rfl (fun g7 hg7 hf7 => ?_)
  -- mq: at
  refine RW.bytesStr (s := [c]) Tryd.underlying56 Tryd.underlying5 Tryd.underlying9 rfl rfl (fun w' hw' => Rd.of_blk (E := EU8) (L := [c]) hw' Has.head rfl (by decide)) ?_
  refine RW.catS rfl rfl rfl (by first | omega | (simp only [List.length_append, List.length_cons, List.length_nil]; omega)) ?_
  refine RW.call (v := .tuple #[.string (bs (takeL [37, 48, c]).1), .bool (takeL [37, 48, c]).2]) rfl ca47 rfl (fun w' _ => refTake_c w' [37, 48, c] (by show 3 ≤ 1000000; decide)) ?_
  refine RW.move rfl rfl ?_
  refine RW.extract rfl rfl rfl ?_
  refine RW.extract rfl rfl rfl ?_
  refine RW.assign rfl rfl ?_
  refine RW.assign rfl rfl ?_
  refine RW.nil (EX.seq (CW.seq (CW.seq ?_)))
  -- mq: region
  by_cases h : 0 ≤ hexI c
  · skip
    rw [k1 h]
    dsimp only
    refine CW.region ?_
    refine RW.move rfl rfl ?_
    refine RW.not_ rfl rfl ?_
    refine RW.move rfl rfl ?_
    refine RW.guardT rfl rfl rfl ?_
    refine RW.move rfl rfl ?_
    refine RW.guardT rfl rfl rfl ?_
    refine RW.lenS Tryd.underlying9 rfl rfl ?_
    refine RW.guardT rfl rfl rfl ?_
    refine RW.neqI rfl rfl rfl ?_
    refine RW.pickC rfl rfl rfl rfl ?_
    refine RW.nil (EX.seq ?_)
    -- mq: cond
    refine CW.condF rfl (rfl) ?_
    refine CW.skip (EX.seq (CW.seq (CW.region ?_)))
    refine RW.move rfl rfl ?_
    refine RW.ixStr (q := 0) Tryd.underlying9 rfl rfl rfl (by rfl) rfl ?_
    refine RW.convI rfl rfl Tryd.underlying5 Tryd.underlying3 (wrap64 (by omega) (by omega)) ?_
    refine RW.assign rfl rfl ?_
    refine RW.nil (EX.seq (CW.ret ?_))
    refine EX.fin1 Tryd.results36 rfl (fun wz hw => ?_)
    -- mq: done
    exact ⟨by rw [two48 h], hw.ext⟩
  · skip
    rw [k2 h]
    refine CW.region ?_
    refine RW.move rfl rfl ?_
    refine RW.not_ rfl rfl ?_
    refine RW.move rfl rfl ?_
    refine RW.guardF rfl rfl rfl rfl ?_
    refine RW.guardF rfl rfl rfl rfl ?_
    refine RW.guardF rfl rfl rfl rfl ?_
    refine RW.pickB rfl rfl rfl rfl ?_
    refine RW.nil (EX.seq ?_)
    -- mq: cond
    refine CW.condT rfl (rfl) ?_
    refine CW.seq (CW.region ?_)
    refine RW.assign rfl rfl ?_
    refine RW.nil (EX.seq (CW.ret (EX.seqR ?_)))
    refine EX.fin1 Tryd.results36 rfl (fun wz hw => ?_)
    -- mq: done
    exact ⟨by rw [show hexI c = -1 by omega], hw.ext⟩
theorem cut17_c (w : World) (s : List UInt8) (hs : s.length ≤ 1000000) :
    Calls Tryd.prog 27 [.string (bs s)].toArray w (fun e w' => e = .returned (.string (bs (s.take 256))) ∧ Ext [] w w') := by
  refine calls (n := 9) Tryd.func27 rfl Tryd.ntmps27 rfl ?_
  refine CW.sub (H' := SH w [] []) ?_ (Sub.refl _) (fun x hx => SH.start' _ _ hx)
  refine CW.seq (CW.region ?_)
  refine RW.assign rfl rfl ?_
  refine RW.nil (EX.seq (CW.seq (CW.seq (CW.region ?_))))
  refine RW.move rfl rfl ?_
  refine RW.lenS Tryd.underlying9 rfl rfl ?_
  refine RW.gtr rfl rfl rfl ?_
  refine RW.nil (EX.seq ?_)
  -- mq: cond
  first | refine CW.condD rfl (fun h1 => ?_) (fun h1 => ?_) | refine CW.cond rfl (fun h1 => ?_) (fun h1 => ?_)
  · skip
    refine CW.seq (CW.region ?_)
    refine RW.move rfl rfl ?_
    refine RW.sliceStrH 256 Tryd.underlying9 rfl rfl rfl (by first | rfl | omega) (by first | omega | (simp; done) | (simp; omega)) ?_
    refine RW.assign rfl rfl ?_
    refine RW.nil (EX.seq (CW.ret (EX.seqR ?_)))
    refine EX.fin1 Tryd.results27 rfl (fun wz hw => ?_)
    -- mq: done
    exact ⟨rfl, hw.ext⟩
  · skip
    refine CW.skip (EX.seq (CW.seq (CW.region ?_)))
    refine RW.move rfl rfl ?_
    refine RW.assign rfl rfl ?_
    refine RW.nil (EX.seq (CW.ret ?_))
    refine EX.fin1 Tryd.results27 rfl (fun wz hw => ?_)
    -- mq: done
    exact ⟨by rw [List.take_of_length_le (by omega)], hw.ext⟩
def startsV (s p : List UInt8) : Value := if s.take p.length = p then .tuple #[.string (bs (s.drop p.length)), .bool true] else .tuple #[.string (bs []), .bool false]
theorem starts_c (w : World) (s p : List UInt8) (hs : s.length ≤ 1000000) (hp : p.length ≤ 1000000) :
    Calls Tryd.prog 28 [.string (bs s), .string (bs p)].toArray w (fun e w' => e = .returned (startsV s p) ∧ Ext [] w w') := by
  refine calls (n := 23) Tryd.func28 rfl Tryd.ntmps28 rfl ?_
  refine CW.sub (H' := SH w [] []) ?_ (Sub.refl _) (fun x hx => SH.start' _ _ hx)
  refine CW.seq (CW.region ?_)
  refine RW.assign rfl rfl ?_
  refine RW.assign rfl rfl ?_
  refine RW.nil (EX.seq (CW.seq (CW.seq (CW.region ?_))))
  refine RW.move rfl rfl ?_
  refine RW.lenS Tryd.underlying9 rfl rfl ?_
  refine RW.move rfl rfl ?_
  refine RW.lenS Tryd.underlying9 rfl rfl ?_
  refine RW.lss rfl rfl rfl ?_
  refine RW.move rfl rfl ?_
  -- mq: guard slot 11
  refine RW.casesB 11 rfl (fun h1 => ?_) (fun h1 => ?_)
  · skip
    have h1p := of_decide_eq_true h1
    refine RW.guardF rfl rfl rfl h1 ?_
    refine RW.guardF rfl rfl rfl h1 ?_
    refine RW.guardF rfl rfl rfl h1 ?_
    refine RW.guardF rfl rfl rfl h1 ?_
    refine RW.guardF rfl rfl rfl h1 ?_
    refine RW.guardF rfl rfl rfl h1 ?_
    refine RW.pickB rfl rfl h1 rfl ?_
    refine RW.nil (EX.seq ?_)
    -- mq: cond
    refine CW.condT rfl (rfl) ?_
    refine CW.seq (CW.region ?_)
    refine RW.assign rfl rfl ?_
    refine RW.assign rfl rfl ?_
    refine RW.nil (EX.seq (CW.ret (EX.seqR ?_)))
    refine EX.fin2 Tryd.results28 rfl rfl (fun wz hw => ?_)
    -- mq: done
    refine ⟨?_, hw.ext⟩
    rw [startsV, if_neg]
    intro e
    have := congrArg List.length e
    rw [List.length_take] at this
    omega
  · skip
    have h1p := of_decide_eq_false h1
    refine RW.guardT rfl rfl h1 ?_
    refine RW.move rfl rfl ?_
    refine RW.guardT rfl rfl h1 ?_
    refine RW.move rfl rfl ?_
    refine RW.guardT rfl rfl h1 ?_
    refine RW.lenS Tryd.underlying9 rfl rfl ?_
    refine RW.guardT rfl rfl h1 ?_
    refine RW.sliceStrH p.length Tryd.underlying9 rfl rfl rfl (by first | rfl | omega) (by first | omega | (simp; done) | (simp; omega)) ?_
    refine RW.guardT rfl rfl h1 ?_
    refine RW.move rfl rfl ?_
    refine RW.guardT rfl rfl h1 ?_
    refine RW.neqS rfl rfl rfl ?_
    refine RW.pickC rfl rfl h1 rfl ?_
    refine RW.nil (EX.seq ?_)
    -- mq: cond
    first | refine CW.condD rfl (fun h2 => ?_) (fun h2 => ?_) | refine CW.cond rfl (fun h2 => ?_) (fun h2 => ?_)
    · skip
      refine CW.seq (CW.region ?_)
      refine RW.assign rfl rfl ?_
      refine RW.assign rfl rfl ?_
      refine RW.nil (EX.seq (CW.ret (EX.seqR ?_)))
      refine EX.fin2 Tryd.results28 rfl rfl (fun wz hw => ?_)
      -- mq: done
      exact ⟨by rw [startsV, if_neg h2], hw.ext⟩
    · skip
      refine CW.skip (EX.seq (CW.seq (CW.region ?_)))
      refine RW.move rfl rfl ?_
      refine RW.move rfl rfl ?_
      refine RW.lenS Tryd.underlying9 rfl rfl ?_
      refine RW.sliceStrL p.length Tryd.underlying9 rfl rfl rfl (by first | rfl | omega) (by first | omega | (simp; done) | (simp; omega)) ?_
      refine RW.assign rfl rfl ?_
      refine RW.assign rfl rfl ?_
      refine RW.nil (EX.seq (CW.ret ?_))
      refine EX.fin2 Tryd.results28 rfl rfl (fun wz hw => ?_)
      -- mq: done
      exact ⟨by rw [startsV, if_pos (Decidable.not_not.1 h2)], hw.ext⟩
theorem take_two {t : List UInt8} {a b : UInt8} : t.take 2 = [a, b] ↔ ∃ r, t = a :: b :: r := by
  constructor
  · intro h
    match t with
    | [] | [_] => cases h
    | x :: y :: r =>
      have h1 := (List.cons.inj h).1
      have h2 := (List.cons.inj (List.cons.inj h).2).1
      exact ⟨r, by rw [h1, h2]⟩
  · rintro ⟨r, rfl⟩; rfl
theorem u8_lit {c : UInt8} {k : Nat} (hk : k < 256) : (c.toNat : Int) = (k : Int) ↔ c = UInt8.ofNat k := by
  constructor
  · intro h
    apply UInt8.toNat_inj.1
    rw [UInt8.toNat_ofNat']
    omega
  · rintro rfl
    rw [UInt8.toNat_ofNat']
    omega
def HexAt (t : List UInt8) : Prop := t.take 2 = [92, 120] ∧ 4 ≤ t.length ∧ 0 ≤ hexI (t.getD 2 0) ∧ 0 ≤ hexI (t.getD 3 0)
theorem wrap_two {a b : UInt8} (ha : 0 ≤ hexI a) (hb : 0 ≤ hexI b) : IntKind.u8.wrap (16 * hexI a + hexI b) = ((twoU a b).toNat : Int) := by
  have h1 := hexI_range a
  have h2 := hexI_range b
  unfold twoU
  rw [IntKind.wrap_u8, UInt8.toNat_ofNat']
  omega
theorem Unesc17_c (w : World) (s : List UInt8) (hs : s.length ≤ 1000000) :
    Calls Tryd.prog 17 [.string (bs s)].toArray w (fun e w' => e = .returned (.string (bs (unescF s))) ∧ Ext [] w w') := by
  refine calls (n := 75) Tryd.func17 rfl Tryd.ntmps17 rfl ?_
  refine CW.sub (H' := SH w [] []) ?_ (Sub.refl _) (fun x hx => SH.start' _ _ hx)
  refine CW.seq (CW.region ?_)
  refine RW.assign rfl rfl ?_
  refine RW.nil (EX.seq (CW.seq ?_))
  -- mq: region
  refine CW.ownNil 5 1 ?_
  refine CW.region ?_
  refine RW.assign rfl rfl ?_
  refine RW.nil (EX.seq (CW.seq (CW.block ?_)))
  -- mq: loop
  refine CW.loop (ι := List UInt8 × Value × List UInt8) (fun t => [(0, .string (bs t.1)), (3, t.2.1)]) (fun t => SH w [] [own 5 1 t.2.1 t.2.2.length (EU8.all t.2.2)]) (fun t => t.1.length + t.2.2.length ≤ s.length ∧ unescF s = t.2.2 ++ unescF t.1) (fun t => t.1.length) ?_ ?_
  · exact fun w' hw' => ⟨(s, _, []), ⟨Nat.le_refl _, rfl⟩, (by repeat (first | exact Sub.nil | refine Sub.cons (by rfl) ?_)), hw'⟩
  · rintro ⟨t, v, O⟩ ⟨htl, hsp⟩
    dsimp only at htl hsp ⊢
    refine CW.seq (CW.seq (CW.region ?_))
    refine RW.move rfl rfl ?_
    refine RW.lenS Tryd.underlying9 rfl rfl ?_
    refine RW.gtr rfl rfl rfl ?_
    refine RW.nil (EX.seq ?_)
    -- mq: cond
    first | refine CW.condD rfl (fun hpos => ?_) (fun hpos => ?_) | refine CW.cond rfl (fun hpos => ?_) (fun hpos => ?_)
    · skip
      have htne : t ≠ [] := by rintro rfl; simp at hpos
      have hst := unescF_step htne
      refine CW.skip (EX.seq (CW.block (CW.block (CW.seq ?_))))
      -- mq: region
      refine CW.joinI (fun b : Bool => [(0, .string (bs t)), (3, v), (14, .bool b)]) (fun _ => SH w [] [own 5 1 v O.length (EU8.all O)]) (fun b => (b = true ↔ t.take 2 = [92, 92])) ?_ ?_
      · skip
        refine CW.region ?_
        refine RW.move rfl rfl ?_
        refine RW.lenS Tryd.underlying9 rfl rfl ?_
        refine RW.gtr rfl rfl rfl ?_
        refine RW.move rfl rfl ?_
        -- mq: guard slot 18
        refine RW.casesB 18 rfl (fun g1 => ?_) (fun g1 => ?_)
        · skip
          have g1p := of_decide_eq_true g1
          obtain ⟨c0, c1, r, ht⟩ : ∃ c0 c1 r, t = c0 :: c1 :: r := by
            match t, g1p with
            | c0 :: c1 :: r, _ => exact ⟨c0, c1, r, rfl⟩
            | [_], h => simp at h
            | [], h => simp at h
          have hk0 : t[0]? = some c0 := by rw [ht]; rfl
          have hk1 : t[1]? = some c1 := by rw [ht]; rfl
          have h0 := UInt8.toNat_lt c0
          have h1 := UInt8.toNat_lt c1
          have htk : t.take 2 = [c0, c1] := by rw [ht]; rfl
          refine RW.guardT rfl rfl g1 ?_
          refine RW.move rfl rfl ?_
          refine RW.guardT rfl rfl g1 ?_
          refine RW.ixStr (q := 0) Tryd.underlying9 rfl rfl rfl (by rfl) hk0 ?_
          refine RW.guardT rfl rfl g1 ?_
          refine RW.eqlI rfl rfl rfl ?_
          refine RW.pickB rfl rfl g1 rfl ?_
          refine RW.move rfl rfl ?_
          -- mq: guard slot 23
          refine RW.casesB 23 rfl (fun g2 => ?_) (fun g2 => ?_)
          · skip
            have g2p := of_decide_eq_true g2
            refine RW.guardT rfl rfl g2 ?_
            refine RW.move rfl rfl ?_
            refine RW.guardT rfl rfl g2 ?_
            refine RW.ixStr (q := 1) Tryd.underlying9 rfl rfl rfl (by rfl) hk1 ?_
            refine RW.guardT rfl rfl g2 ?_
            refine RW.eqlI rfl rfl rfl ?_
            refine RW.pickB rfl rfl g2 rfl ?_
            refine RW.assign rfl rfl ?_
            refine RW.nil ?_
            -- mq: joinend
            refine EX.jnI (decide ((c1.toNat : Int) = 92)) ?_ (by repeat (first | exact Sub.nil | refine Sub.cons (by rfl) ?_)) (fun _ h => h)
            rw [decide_eq_true_eq, htk, show (92 : Int) = ((92 : Nat) : Int) from rfl, u8_lit (by decide)]
            have e0 : c0 = 92 := (u8_lit (k := 92) (by decide)).1 g2p
            rw [e0]
            exact ⟨fun h => by rw [h]; rfl, fun h => (List.cons.inj (List.cons.inj h).2).1⟩
          · skip
            have g2p := of_decide_eq_false g2
            refine RW.guardF rfl rfl rfl g2 ?_
            refine RW.guardF rfl rfl rfl g2 ?_
            refine RW.guardF rfl rfl rfl g2 ?_
            refine RW.pickC rfl rfl g2 rfl ?_
            refine RW.assign rfl rfl ?_
            refine RW.nil ?_
            -- mq: joinend
            refine EX.jnI false ?_ (by repeat (first | exact Sub.nil | refine Sub.cons (by rfl) ?_)) (fun _ h => h)
            rw [htk]
            exact ⟨fun h => (by cases h), fun h => absurd ((u8_lit (k := 92) (by decide)).2 (List.cons.inj h).1) g2p⟩
        · skip
          have g1p := of_decide_eq_false g1
          refine RW.guardF rfl rfl rfl g1 ?_
          refine RW.guardF rfl rfl rfl g1 ?_
          refine RW.guardF rfl rfl rfl g1 ?_
          refine RW.pickC rfl rfl g1 rfl ?_
          refine RW.move rfl rfl ?_
          refine RW.guardF rfl rfl rfl rfl ?_
          refine RW.guardF rfl rfl rfl rfl ?_
          refine RW.guardF rfl rfl rfl rfl ?_
          refine RW.pickC rfl rfl rfl rfl ?_
          refine RW.assign rfl rfl ?_
          refine RW.nil ?_
          -- mq: joinend
          refine EX.jnI false ?_ (by repeat (first | exact Sub.nil | refine Sub.cons (by rfl) ?_)) (fun _ h => h)
          exact ⟨fun h => (by cases h), fun h => absurd (by have := congrArg List.length h; rw [List.length_take] at this; simp at this; omega) g1p⟩
      · skip
        intro b hb
        refine EX.seq ?_
        -- mq: cond
        first | refine CW.condD rfl (fun hbb => ?_) (fun hbb => ?_) | refine CW.cond rfl (fun hbb => ?_) (fun hbb => ?_)
        · skip
          have h2 := hb.1 hbb
          have hnx := nextE_bb h2
          have hle := nextE_le htne
          rw [hnx] at hst hle
          dsimp only at hst hle
          refine CW.seq (CW.region ?_)
          refine RW.move rfl rfl ?_
          refine RW.buildSlc sl56 rfl rfl rfl rfl (fun g29 hg29 hf29 => ?_)
          refine RW.append1 sl56 rfl rfl rfl (by first | exact Rem.head | exact Rem.tail Rem.head | exact Rem.tail (Rem.tail Rem.head) | exact Rem.tail (Rem.tail (Rem.tail Rem.head)) | exact Rem.tail (Rem.tail (Rem.tail (Rem.tail Rem.head))) | exact Rem.tail (Rem.tail (Rem.tail (Rem.tail (Rem.tail Rem.head)))) | exact Rem.tail (Rem.tail (Rem.tail (Rem.tail (Rem.tail (Rem.tail Rem.head)))))) (fun _ => by first | exact Upd.head | exact Upd.tail Upd.head | exact Upd.tail (Upd.tail Upd.head) | exact Upd.tail (Upd.tail (Upd.tail Upd.head)) | exact Upd.tail (Upd.tail (Upd.tail (Upd.tail Upd.head))) | exact Upd.tail (Upd.tail (Upd.tail (Upd.tail (Upd.tail Upd.head)))) | exact Upd.tail (Upd.tail (Upd.tail (Upd.tail (Upd.tail (Upd.tail Upd.head)))))) rfl (by repeat (first | exact Ones.nil | exact Enc.ones _ _ | refine Ones.cons rfl ?_)) (by simp only [maxLen]; omega) (by omega) (fun v30 hv30 => ?_)
          refine RW.assign rfl rfl ?_
          refine RW.nil (EX.seq ?_)
          -- mq: region
          refine CW.region ?_
          refine RW.move rfl rfl ?_
          refine RW.sliceStrL 2 Tryd.underlying9 rfl rfl rfl (by first | rfl | omega) (by first | omega | (simp; done) | (simp; omega)) ?_
          refine RW.assign rfl rfl ?_
          refine RW.nil (EX.bkN (EX.bkN ?_))
          -- mq: loopend
          refine EX.lpN (t.drop 2, v30, O ++ [92]) ⟨by dsimp only; rw [List.length_drop]; simp; omega, by rw [hsp, hst]; simp⟩ (by dsimp only; rw [List.length_drop]; omega) (by repeat (first | exact Sub.nil | refine Sub.cons (by rfl) ?_)) (fun w' hw' => ?_)
          dsimp only
          rw [Enc.all_snoc EU8, List.length_append]
          exact hw'
        · skip
          have h2 : ¬ t.take 2 = [92, 92] := fun h => by rw [hb.2 h] at hbb; cases hbb
          refine CW.seq ?_
          -- mq: region
          refine CW.joinI (fun b : Bool => [(0, .string (bs t)), (3, v), (33, .bool b)]) (fun _ => SH w [] [own 5 1 v O.length (EU8.all O)]) (fun b => (b = true ↔ HexAt t)) ?_ ?_
          · skip
            refine CW.region ?_
            refine RW.move rfl rfl ?_
            refine RW.lenS Tryd.underlying9 rfl rfl ?_
            refine RW.gtr rfl rfl rfl ?_
            refine RW.move rfl rfl ?_
            -- mq: guard slot 37
            refine RW.casesB 37 rfl (fun g1 => ?_) (fun g1 => ?_)
            · skip
              have g1p := of_decide_eq_true g1
              obtain ⟨c0, c1, c2, c3, r, ht⟩ : ∃ c0 c1 c2 c3 r, t = c0 :: c1 :: c2 :: c3 :: r := by
                match t, g1p with
                | c0 :: c1 :: c2 :: c3 :: r, _ => exact ⟨c0, c1, c2, c3, r, rfl⟩
                | [_, _, _], h => simp at h
                | [_, _], h => simp at h
                | [_], h => simp at h
                | [], h => simp at h
              have hk0 : t[0]? = some c0 := by rw [ht]; rfl
              have hk1 : t[1]? = some c1 := by rw [ht]; rfl
              have hk2 : t[2]? = some c2 := by rw [ht]; rfl
              have hk3 : t[3]? = some c3 := by rw [ht]; rfl
              have h0 := UInt8.toNat_lt c0
              have h1 := UInt8.toNat_lt c1
              have hhx : HexAt t ↔ ((c0 = 92 ∧ c1 = 120) ∧ 0 ≤ hexI c2 ∧ 0 ≤ hexI c3) := by
                unfold HexAt
                rw [ht]
                show [c0, c1] = [92, 120] ∧ _ ↔ _
                constructor
                · rintro ⟨e, -, e2, e3⟩
                  exact ⟨⟨(List.cons.inj e).1, (List.cons.inj (List.cons.inj e).2).1⟩, e2, e3⟩
                · rintro ⟨⟨e0, e1⟩, e2, e3⟩
                  exact ⟨by rw [e0, e1], by simp, e2, e3⟩
              refine RW.guardT rfl rfl g1 ?_
              refine RW.move rfl rfl ?_
              refine RW.guardT rfl rfl g1 ?_
              refine RW.ixStr (q := 0) Tryd.underlying9 rfl rfl rfl (by rfl) hk0 ?_
              refine RW.guardT rfl rfl g1 ?_
              refine RW.eqlI rfl rfl rfl ?_
              refine RW.pickB rfl rfl g1 rfl ?_
              refine RW.move rfl rfl ?_
              -- mq: guard slot 42
              refine RW.casesB 42 rfl (fun g2 => ?_) (fun g2 => ?_)
              · skip
                have g2p := of_decide_eq_true g2
                have e0 : c0 = 92 := (u8_lit (k := 92) (by decide)).1 g2p
                refine RW.guardT rfl rfl g2 ?_
                refine RW.move rfl rfl ?_
                refine RW.guardT rfl rfl g2 ?_
                refine RW.ixStr (q := 1) Tryd.underlying9 rfl rfl rfl (by rfl) hk1 ?_
                refine RW.guardT rfl rfl g2 ?_
                refine RW.eqlI rfl rfl rfl ?_
                refine RW.pickB rfl rfl g2 rfl ?_
                refine RW.move rfl rfl ?_
                -- mq: guard slot 47
                refine RW.casesB 47 rfl (fun g3 => ?_) (fun g3 => ?_)
                · skip
                  have g3p := of_decide_eq_true g3
                  have e1 : c1 = 120 := (u8_lit (k := 120) (by decide)).1 g3p
                  refine RW.guardT rfl rfl g3 ?_
                  refine RW.move rfl rfl ?_
                  refine RW.guardT rfl rfl g3 ?_
                  refine RW.ixStr (q := 2) Tryd.underlying9 rfl rfl rfl (by rfl) hk2 ?_
                  refine RW.guardT rfl rfl g3 ?_
                  refine RW.call rfl ca36 rfl (fun w' _ => dig17_c w' c2) ?_
                  refine RW.guardT rfl rfl g3 ?_
                  refine RW.geq rfl rfl rfl ?_
                  refine RW.pickB rfl rfl g3 rfl ?_
                  refine RW.move rfl rfl ?_
                  -- mq: guard slot 53
                  refine RW.casesB 53 rfl (fun g4 => ?_) (fun g4 => ?_)
                  · skip
                    have g4p := of_decide_eq_true g4
                    refine RW.guardT rfl rfl g4 ?_
                    refine RW.move rfl rfl ?_
                    refine RW.guardT rfl rfl g4 ?_
                    refine RW.ixStr (q := 3) Tryd.underlying9 rfl rfl rfl (by rfl) hk3 ?_
                    refine RW.guardT rfl rfl g4 ?_
                    refine RW.call rfl ca36 rfl (fun w' _ => dig17_c w' c3) ?_
                    refine RW.guardT rfl rfl g4 ?_
                    refine RW.geq rfl rfl rfl ?_
                    refine RW.pickB rfl rfl g4 rfl ?_
                    refine RW.assign rfl rfl ?_
                    refine RW.nil ?_
                    -- mq: joinend
                    refine EX.jnI (decide (0 ≤ hexI c3)) ?_ (by repeat (first | exact Sub.nil | refine Sub.cons (by rfl) ?_)) (fun _ h => h)
                    rw [decide_eq_true_eq, hhx]
                    exact ⟨fun h => ⟨⟨e0, e1⟩, g4p, h⟩, fun h => h.2.2⟩
                  · skip
                    have g4p := of_decide_eq_false g4
                    refine RW.guardF rfl rfl rfl g4 ?_
                    refine RW.guardF rfl rfl rfl g4 ?_
                    refine RW.guardF rfl rfl rfl g4 ?_
                    refine RW.guardF rfl rfl rfl g4 ?_
                    refine RW.pickC rfl rfl g4 rfl ?_
                    refine RW.assign rfl rfl ?_
                    refine RW.nil ?_
                    -- mq: joinend
                    refine EX.jnI false ?_ (by repeat (first | exact Sub.nil | refine Sub.cons (by rfl) ?_)) (fun _ h => h)
                    rw [hhx]
                    exact ⟨fun h => (by cases h), fun h => absurd h.2.1 g4p⟩
                · skip
                  have g3p := of_decide_eq_false g3
                  refine RW.guardF rfl rfl rfl g3 ?_
                  refine RW.guardF rfl rfl rfl g3 ?_
                  refine RW.guardF rfl rfl rfl g3 ?_
                  refine RW.guardF rfl rfl rfl g3 ?_
                  refine RW.pickC rfl rfl g3 rfl ?_
                  refine RW.move rfl rfl ?_
                  refine RW.guardF rfl rfl rfl rfl ?_
                  refine RW.guardF rfl rfl rfl rfl ?_
                  refine RW.guardF rfl rfl rfl rfl ?_
                  refine RW.guardF rfl rfl rfl rfl ?_
                  refine RW.pickC rfl rfl rfl rfl ?_
                  refine RW.assign rfl rfl ?_
                  refine RW.nil ?_
                  -- mq: joinend
                  refine EX.jnI false ?_ (by repeat (first | exact Sub.nil | refine Sub.cons (by rfl) ?_)) (fun _ h => h)
                  rw [hhx]
                  exact ⟨fun h => (by cases h), fun h => absurd ((u8_lit (k := 120) (by decide)).2 h.1.2) g3p⟩
              · skip
                have g2p := of_decide_eq_false g2
                refine RW.guardF rfl rfl rfl g2 ?_
                refine RW.guardF rfl rfl rfl g2 ?_
                refine RW.guardF rfl rfl rfl g2 ?_
                refine RW.pickC rfl rfl g2 rfl ?_
                refine RW.move rfl rfl ?_
                refine RW.guardF rfl rfl rfl rfl ?_
                refine RW.guardF rfl rfl rfl rfl ?_
                refine RW.guardF rfl rfl rfl rfl ?_
                refine RW.guardF rfl rfl rfl rfl ?_
                refine RW.pickC rfl rfl rfl rfl ?_
                refine RW.move rfl rfl ?_
                refine RW.guardF rfl rfl rfl rfl ?_
                refine RW.guardF rfl rfl rfl rfl ?_
                refine RW.guardF rfl rfl rfl rfl ?_
                refine RW.guardF rfl rfl rfl rfl ?_
                refine RW.pickC rfl rfl rfl rfl ?_
                refine RW.assign rfl rfl ?_
                refine RW.nil ?_
                -- mq: joinend
                refine EX.jnI false ?_ (by repeat (first | exact Sub.nil | refine Sub.cons (by rfl) ?_)) (fun _ h => h)
                rw [hhx]
                exact ⟨fun h => (by cases h), fun h => absurd ((u8_lit (k := 92) (by decide)).2 h.1.1) g2p⟩
            · skip
              have g1p := of_decide_eq_false g1
              refine RW.guardF rfl rfl rfl g1 ?_
              refine RW.guardF rfl rfl rfl g1 ?_
              refine RW.guardF rfl rfl rfl g1 ?_
              refine RW.pickC rfl rfl g1 rfl ?_
              refine RW.move rfl rfl ?_
              refine RW.guardF rfl rfl rfl rfl ?_
              refine RW.guardF rfl rfl rfl rfl ?_
              refine RW.guardF rfl rfl rfl rfl ?_
              refine RW.pickC rfl rfl rfl rfl ?_
              refine RW.move rfl rfl ?_
              refine RW.guardF rfl rfl rfl rfl ?_
              refine RW.guardF rfl rfl rfl rfl ?_
              refine RW.guardF rfl rfl rfl rfl ?_
              refine RW.guardF rfl rfl rfl rfl ?_
              refine RW.pickC rfl rfl rfl rfl ?_
              refine RW.move rfl rfl ?_
              refine RW.guardF rfl rfl rfl rfl ?_
              refine RW.guardF rfl rfl rfl rfl ?_
              refine RW.guardF rfl rfl rfl rfl ?_
              refine RW.guardF rfl rfl rfl rfl ?_
              refine RW.pickC rfl rfl rfl rfl ?_
              refine RW.assign rfl rfl ?_
              refine RW.nil ?_
              -- mq: joinend
              refine EX.jnI false ?_ (by repeat (first | exact Sub.nil | refine Sub.cons (by rfl) ?_)) (fun _ h => h)
              exact ⟨fun h => (by cases h), fun h => absurd (by have := h.2.1; omega) g1p⟩
          · skip
            intro b2 hb2
            refine EX.seq ?_
            -- mq: cond
            first | refine CW.condD rfl (fun hbx => ?_) (fun hbx => ?_) | refine CW.cond rfl (fun hbx => ?_) (fun hbx => ?_)
            · skip
              have hx := hb2.1 hbx
              have hnx := nextE_four hx.1 hx.2.1 hx.2.2.1 hx.2.2.2
              rw [hnx] at hst
              dsimp only at hst
              have hx4 := hx.2.1
              have hk2 : t[2]? = some (t.getD 2 0) := by rw [List.getD_eq_getElem?_getD, List.getElem?_eq_getElem (by omega)]; rfl
              have hk3 : t[3]? = some (t.getD 3 0) := by rw [List.getD_eq_getElem?_getD, List.getElem?_eq_getElem (by omega)]; rfl
              have hr2 := hexI_range (t.getD 2 0)
              have hr3 := hexI_range (t.getD 3 0)
              have hwt := wrap_two hx.2.2.1 hx.2.2.2
              generalize t.getD 2 0 = a at *
              generalize t.getD 3 0 = b at *
              refine CW.seq ?_
              -- mq: region
              refine CW.drawU [0, 1, 2, 5, 6] 4 [[(3, false, [4]), (7, false, [8, 9]), (10, false, []), (11, false, [12])]] (fun _ => True) mixed (by kernel_rfl) (fun _ hw => hw.drew) (fun _ h => (by first | trivial | exact h | exact h.ch | exact (h.rem Rem.head).ch | exact ((h.rem Rem.head).rem Rem.head).ch | exact (((h.rem Rem.head).rem Rem.head).rem Rem.head).ch)) ?_
              refine QuP.cons rfl (fun wq hq => (RW.move rfl rfl RW.jn)) ?_
              refine QuP.cons rfl (fun wq hq => (RW.move rfl rfl RW.jn)) ?_
              refine QuP.cons rfl (fun wq hq => (RW.ixStr (q := 2) Tryd.underlying9 rfl rfl rfl (by rfl) hk2 RW.jn)) ?_
              refine QuP.cons rfl (fun wq hq => (RW.move rfl rfl RW.jn)) ?_
              refine QuP.cons rfl (fun wq hq => (RW.ixStr (q := 3) Tryd.underlying9 rfl rfl rfl (by rfl) hk3 RW.jn)) ?_
              refine QuP.nil ?_
              refine UW.step [_] rfl (List.forall_mem_cons.2 ⟨?_, by simp⟩)
              refine RW.call rfl ca36 rfl (fun w' _ => dig17_c w' a) ?_
              refine RW.st (fun _ => True) (fun _ h => .inr (by first | trivial | exact h | exact h.ch | exact (h.rem Rem.head).ch | exact ((h.rem Rem.head).rem Rem.head).ch | exact (((h.rem Rem.head).rem Rem.head).rem Rem.head).ch)) (fun _ h => trivial) ?_
              refine QuP.cons rfl (fun wq hq => (RW.mul (r := 16 * hexI a) rfl rfl rfl (wrap64 (by omega) (by omega)) RW.jn)) ?_
              refine QuP.nil ?_
              refine UW.step [_] rfl (List.forall_mem_cons.2 ⟨?_, by simp⟩)
              refine RW.call rfl ca36 rfl (fun w' _ => dig17_c w' b) ?_
              refine RW.st (fun _ => True) (fun _ h => .inr ⟨.inr (by first | trivial | exact h | exact h.ch | exact (h.rem Rem.head).ch | exact ((h.rem Rem.head).rem Rem.head).ch | exact (((h.rem Rem.head).rem Rem.head).rem Rem.head).ch), trivial⟩) (fun _ h => trivial) ?_
              refine QuP.cons rfl (fun wq hq => (RW.add (r := 16 * hexI a + hexI b) rfl rfl rfl (wrap64 (by omega) (by omega)) RW.jn)) ?_
              refine QuP.cons rfl (fun wq hq => (RW.convI (r := ((twoU a b).toNat : Int)) rfl rfl Tryd.underlying3 Tryd.underlying5 hwt RW.jn)) ?_
              refine QuP.nil ?_
              refine UW.step [_] rfl (List.forall_mem_cons.2 ⟨?_, by simp⟩)
              refine RW.buildSlc sl56 rfl rfl rfl rfl (fun g69 hg69 hf69 => ?_)
              refine RW.st (fun _ => True) (fun _ h => .inr ⟨.inr ⟨.inr (by first | trivial | exact h | exact h.ch | exact (h.rem Rem.head).ch | exact ((h.rem Rem.head).rem Rem.head).ch | exact (((h.rem Rem.head).rem Rem.head).rem Rem.head).ch), trivial⟩, trivial⟩) (fun _ h => trivial) ?_
              refine QuP.nil ?_
              refine UW.step [_] rfl (List.forall_mem_cons.2 ⟨?_, by simp⟩)
              refine RW.append1 sl56 rfl rfl rfl (by first | exact Rem.head | exact Rem.tail Rem.head | exact Rem.tail (Rem.tail Rem.head) | exact Rem.tail (Rem.tail (Rem.tail Rem.head)) | exact Rem.tail (Rem.tail (Rem.tail (Rem.tail Rem.head))) | exact Rem.tail (Rem.tail (Rem.tail (Rem.tail (Rem.tail Rem.head)))) | exact Rem.tail (Rem.tail (Rem.tail (Rem.tail (Rem.tail (Rem.tail Rem.head)))))) (fun _ => by first | exact Upd.head | exact Upd.tail Upd.head | exact Upd.tail (Upd.tail Upd.head) | exact Upd.tail (Upd.tail (Upd.tail Upd.head)) | exact Upd.tail (Upd.tail (Upd.tail (Upd.tail Upd.head))) | exact Upd.tail (Upd.tail (Upd.tail (Upd.tail (Upd.tail Upd.head)))) | exact Upd.tail (Upd.tail (Upd.tail (Upd.tail (Upd.tail (Upd.tail Upd.head)))))) rfl (by repeat (first | exact Ones.nil | exact Enc.ones _ _ | refine Ones.cons rfl ?_)) (by simp only [maxLen]; omega) (by omega) (fun v70 hv70 => ?_)
              refine RW.st (fun _ => True) (fun _ h => .inr ⟨.inr ⟨.inr ⟨.inr (by first | trivial | exact h | exact h.ch | exact (h.rem Rem.head).ch | exact ((h.rem Rem.head).rem Rem.head).ch | exact (((h.rem Rem.head).rem Rem.head).rem Rem.head).ch), trivial⟩, trivial⟩, trivial⟩) (fun _ h => trivial) ?_
              refine QuP.cons rfl (fun wq hq => (RW.assign rfl rfl RW.jn)) ?_
              refine QuP.nil ?_
              refine UW.nil (EX.seq ?_)
              -- mq: region
              refine CW.region ?_
              refine RW.move rfl rfl ?_
              refine RW.sliceStrL 4 Tryd.underlying9 rfl rfl rfl (by first | rfl | omega) (by first | omega | (simp; done) | (simp; omega)) ?_
              refine RW.assign rfl rfl ?_
              refine RW.nil (EX.bkN (EX.bkN ?_))
              -- mq: loopend
              refine EX.lpN (t.drop 4, v70, O ++ [twoU a b]) ⟨by dsimp only; rw [List.length_drop]; simp; omega, by rw [hsp, hst]; simp⟩ (by dsimp only; rw [List.length_drop]; omega) (by repeat (first | exact Sub.nil | refine Sub.cons (by rfl) ?_)) (fun w' hw' => ?_)
              dsimp only
              rw [Enc.all_snoc EU8, List.length_append]
              exact hw'
            · skip
              have hnx := nextE_one h2 (fun h => by rw [hb2.2 h] at hbx; cases hbx)
              rw [hnx] at hst
              dsimp only at hst
              obtain ⟨c, r, rfl⟩ : ∃ c r, t = c :: r := by
                cases t with
                | nil => exact absurd rfl htne
                | cons c r => exact ⟨c, r, rfl⟩
              have hc8 := UInt8.toNat_lt c
              refine CW.seq ?_
              -- mq: region
              refine CW.region ?_
              refine RW.move rfl rfl ?_
              refine RW.move rfl rfl ?_
              refine RW.ixStr (q := 0) Tryd.underlying9 rfl rfl rfl (by rfl) (rfl : (c :: r)[0]? = some c) ?_
              refine RW.buildSlc sl56 rfl rfl rfl rfl (fun g10 hg10 hf10 => ?_)
              refine RW.append1 sl56 rfl rfl rfl (by first | exact Rem.head | exact Rem.tail Rem.head | exact Rem.tail (Rem.tail Rem.head) | exact Rem.tail (Rem.tail (Rem.tail Rem.head)) | exact Rem.tail (Rem.tail (Rem.tail (Rem.tail Rem.head))) | exact Rem.tail (Rem.tail (Rem.tail (Rem.tail (Rem.tail Rem.head)))) | exact Rem.tail (Rem.tail (Rem.tail (Rem.tail (Rem.tail (Rem.tail Rem.head)))))) (fun _ => by first | exact Upd.head | exact Upd.tail Upd.head | exact Upd.tail (Upd.tail Upd.head) | exact Upd.tail (Upd.tail (Upd.tail Upd.head)) | exact Upd.tail (Upd.tail (Upd.tail (Upd.tail Upd.head))) | exact Upd.tail (Upd.tail (Upd.tail (Upd.tail (Upd.tail Upd.head)))) | exact Upd.tail (Upd.tail (Upd.tail (Upd.tail (Upd.tail (Upd.tail Upd.head)))))) rfl (by repeat (first | exact Ones.nil | exact Enc.ones _ _ | refine Ones.cons rfl ?_)) (by simp only [maxLen]; omega) (by omega) (fun v11 hv11 => ?_)
              refine RW.assign rfl rfl ?_
              refine RW.nil (EX.seq ?_)
              -- mq: region
              refine CW.region ?_
              refine RW.move rfl rfl ?_
              refine RW.sliceStrL 1 Tryd.underlying9 rfl rfl rfl (by first | rfl | omega) (by first | omega | (simp; done) | (simp; omega)) ?_
              refine RW.assign rfl rfl ?_
              refine RW.nil (EX.bkN (EX.bkN ?_))
              -- mq: loopend
              refine EX.lpN ((c :: r).drop 1, v11, O ++ [c]) ⟨by dsimp only; simp at htl ⊢; omega, by rw [hsp, hst]; simp⟩ (by dsimp only; simp) (by repeat (first | exact Sub.nil | refine Sub.cons (by rfl) ?_)) (fun w' hw' => ?_)
              dsimp only
              rw [Enc.all_snoc EU8, List.length_append]
              exact hw'
    · skip
      obtain rfl : t = [] := List.length_eq_zero_iff.1 (by omega)
      rw [unescF_nil, List.append_nil] at hsp
      refine CW.formOwn (v := v) Has.head (fun A4 c4 hv4 hcap4 hmax4 hlen4 hg4 => ?_)
      subst hv4
      refine CW.exit (EX.seqE (EX.lpE (EX.bkE (EX.seq (CW.seq (CW.region ?_))))))
      refine RW.move rfl rfl ?_
      -- mq: op 1: ('Op.convert', '56', '9', ('Operand.tmp', '73')) -> slot 74 ("ref.go:73")
      refine RW.bytesStr (s := O) (F := fun k => (Value.slice A4 O.length c4).ownBlock = some k) Tryd.underlying56 Tryd.underlying5 Tryd.underlying9 rfl rfl (fun w' hw' => ?_) ?_
      · obtain ⟨A6, c6, he6, hrd6⟩ := Rd.of_own (E := EU8) (hw'.has Has.head) rfl
        cases he6
        exact hrd6
      refine RW.assign rfl rfl ?_
      refine RW.nil (EX.seq (CW.ret ?_))
      refine EX.fin1 Tryd.results17 rfl (fun wz hw => ?_)
      -- mq: done
      exact ⟨by rw [hsp], hw.ext⟩
end Go.Proofs.YtemcblinkicblaaDoor.Mq
