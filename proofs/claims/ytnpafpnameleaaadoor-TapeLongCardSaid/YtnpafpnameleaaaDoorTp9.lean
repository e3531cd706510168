/- tape: the reference's data (printed by gentp9.py) -/
import Derived.Test.YtnpafpnameleaaaDoorTp8
namespace Go.Proofs.YtnpafpnameleaaaDoor.Mq
open Go Go.RowKit Go.Proofs

def accX (a b : UInt8) : Nat → Option Nat
  | 0 => some 0
  | 1 => hexV a
  | _ => match hexV a, hexV b with
    | some y, some z => some (16 * y + z)
    | _, _ => none
theorem hexV_lo {c : UInt8} (h1 : 48 ≤ c.toNat) (h2 : c.toNat ≤ 57) : hexV c = some (c.toNat - 48) := by rw [hexV, if_pos ⟨h1, h2⟩]
theorem hexV_hi {c : UInt8} (h1 : 97 ≤ c.toNat) (h2 : c.toNat ≤ 102) : hexV c = some (c.toNat - 87) := by rw [hexV, if_neg (by omega), if_pos ⟨h1, h2⟩]
theorem hexV_not {c : UInt8} (h1 : ¬ (48 ≤ c.toNat ∧ c.toNat ≤ 57)) (h2 : ¬ (97 ≤ c.toNat ∧ c.toNat ≤ 102)) : hexV c = none := by rw [hexV, if_neg h1, if_neg h2]
theorem odd_none {r : List UInt8} (h : r.length % 2 = 1) : unhexP r = none := by
  cases hu : unhexP r with
  | none => rfl
  | some l => have := unhexP_len hu; omega
theorem data_odd {s : List UInt8} (h : s.length % 2 ≠ 1) : dataF s = ([], 4) := by
  by_cases hp : s.take 1 = [61]
  · have hl := take_one hp
    refine dataF_bad hp (odd_none ?_)
    have : s.length = (s.drop 1).length + 1 := by rw [hl]; simp
    omega
  · exact dataF_no hp
theorem refData_c (w : World) (s : List UInt8) (hs : s.length ≤ 1000000) :
    Calls Tryd.prog 30 [.string (bs s)].toArray w (fun e w' => e = .returned (.tuple #[.string (bs (dataF s).1), .int .i64 ((dataF s).2 : Int)]) ∧ Ext [] w w') := by
  refine calls (n := 70) Tryd.func30 rfl Tryd.ntmps30 rfl ?_
  refine CW.sub (H' := SH w [] []) ?_ (Sub.refl _) (fun x hx => SH.start' _ _ hx)
  refine CW.seq (CW.region ?_)
  refine RW.assign rfl rfl ?_
  refine RW.assign rfl rfl ?_
  refine RW.nil (EX.seq (CW.seq (CW.seq ?_)))
  -- mq: region
  refine CW.region ?_
  refine RW.move rfl rfl ?_
  refine RW.lenS Tryd.underlying9 rfl rfl ?_
  refine RW.rem (r := ((s.length % 2 : Nat) : Int)) rfl rfl rfl (by decide) rfl ?_
  refine RW.neqI rfl rfl rfl ?_
  refine RW.move rfl rfl ?_
  -- mq: guard slot 13
  refine RW.casesB 13 rfl (fun h1 => ?_) (fun h1 => ?_)
  · skip
    have h1p := of_decide_eq_true h1
    refine RW.guardF rfl rfl rfl h1 ?_
    refine RW.guardF rfl rfl rfl h1 ?_
    refine RW.guardF rfl rfl rfl h1 ?_
    refine RW.pickB rfl rfl h1 rfl ?_
    refine RW.nil (EX.seq ?_)
    -- mq: cond
    refine CW.condT rfl (rfl) ?_
    refine CW.seq (CW.region ?_)
    refine RW.assign rfl rfl ?_
    refine RW.assign rfl rfl ?_
    refine RW.nil (EX.seq (CW.ret (EX.seqR ?_)))
    refine EX.fin2 Tryd.results30 rfl rfl (fun wz hw => ?_)
    -- mq: done
    exact ⟨by rw [data_odd (by omega)]; rfl, hw.ext⟩
  · skip
    have h1p := of_decide_eq_false h1
    obtain ⟨c0, hc0⟩ : ∃ c, s[0]? = some c := ⟨s[0]'(by omega), List.getElem?_eq_getElem _⟩
    have hc8 := UInt8.toNat_lt c0
    have ht1 : s.take 1 = [c0] := by cases s with | nil => cases hc0 | cons a r => cases hc0; rfl
    refine RW.guardT rfl rfl h1 ?_
    refine RW.move rfl rfl ?_
    refine RW.guardT rfl rfl h1 ?_
    refine RW.ixStr (q := 0) Tryd.underlying9 rfl rfl rfl (by rfl) hc0 ?_
    refine RW.guardT rfl rfl h1 ?_
    refine RW.neqI rfl rfl rfl ?_
    refine RW.pickC rfl rfl h1 rfl ?_
    refine RW.nil (EX.seq ?_)
    -- mq: cond
    first | refine CW.condD rfl (fun h2 => ?_) (fun h2 => ?_) | refine CW.cond rfl (fun h2 => ?_) (fun h2 => ?_)
    · skip
      refine CW.seq (CW.region ?_)
      refine RW.assign rfl rfl ?_
      refine RW.assign rfl rfl ?_
      refine RW.nil (EX.seq (CW.ret (EX.seqR ?_)))
      refine EX.fin2 Tryd.results30 rfl rfl (fun wz hw => ?_)
      -- mq: done
      exact ⟨by rw [dataF_no (fun e => by rw [ht1] at e; cases e; exact h2 rfl)]; rfl, hw.ext⟩
    · skip
      obtain rfl : c0 = 61 := UInt8.toNat_inj.1 (by have : (61 : UInt8).toNat = 61 := rfl; omega)
      have hsl : s.length = (s.drop 1).length + 1 := by rw [List.length_drop]; omega
      generalize hr : s.drop 1 = r at hsl
      have hat : ∀ k c, r[k]? = some c → s[1 + k]? = some c := fun k c h => by rw [← hr, List.getElem?_drop] at h; exact h
      refine CW.skip (EX.seq (CW.seq (CW.region ?_)))
      refine RW.assign rfl rfl ?_
      refine RW.nil (EX.seq (CW.seq (CW.seq ?_)))
      -- mq: region
      refine CW.ownNil 5 1 ?_
      refine CW.region ?_
      refine RW.assign rfl rfl ?_
      refine RW.nil (EX.seq (CW.block ?_))
      -- mq: loop
      refine CW.loop (ι := Nat × Value × List UInt8) (fun t => [(0, .string (bs s)), (4, t.2.1), (5, .int .i64 ((1 + 2 * t.1 : Nat) : Int))]) (fun t => SH w [] [own 5 1 t.2.1 t.2.2.length (EU8.all t.2.2)]) (fun t => 2 * t.1 ≤ r.length ∧ t.2.2.length = t.1 ∧ unhexP r = (unhexP (r.drop (2 * t.1))).map (fun l => t.2.2 ++ l)) (fun t => r.length - 2 * t.1) ?_ ?_
      · exact fun w' hw' => ⟨(0, _, []), ⟨Nat.zero_le _, rfl, by simp⟩, (by repeat (first | exact Sub.nil | refine Sub.cons (by rfl) ?_)), hw'⟩
      · rintro ⟨m, v, O⟩ ⟨hm, hO, hsp⟩
        dsimp only at hm hO hsp ⊢
        refine CW.seq (CW.seq (CW.region ?_))
        refine RW.move rfl rfl ?_
        refine RW.move rfl rfl ?_
        refine RW.lenS Tryd.underlying9 rfl rfl ?_
        refine RW.lss rfl rfl rfl ?_
        refine RW.nil (EX.seq ?_)
        -- mq: cond
        first | refine CW.condD rfl (fun hlt => ?_) (fun hlt => ?_) | refine CW.cond rfl (fun hlt => ?_) (fun hlt => ?_)
        · skip
          obtain ⟨a, ha⟩ : ∃ a, r[2 * m]? = some a := ⟨r[2 * m]'(by omega), List.getElem?_eq_getElem _⟩
          obtain ⟨b, hb⟩ : ∃ b, r[2 * m + 1]? = some b := ⟨r[2 * m + 1]'(by omega), List.getElem?_eq_getElem _⟩
          have ha8 := UInt8.toNat_lt a
          have hb8 := UInt8.toNat_lt b
          have has := hat _ _ ha
          have hbs : s[1 + 2 * m + 1]? = some b := hat _ _ hb
          have hd : r.drop (2 * m) = a :: b :: r.drop (2 * (m + 1)) := by
            rw [List.drop_eq_getElem_cons (by omega), (List.getElem?_eq_some_iff.1 ha).2, List.drop_eq_getElem_cons (by omega), (List.getElem?_eq_some_iff.1 hb).2]
            rfl
          rw [hd] at hsp
          refine CW.skip (EX.seq (CW.seq (CW.block (CW.seq (CW.region ?_)))))
          refine RW.assign rfl rfl ?_
          refine RW.nil (EX.seq (CW.seq (CW.seq (CW.region ?_))))
          refine RW.move rfl rfl ?_
          refine RW.assign rfl rfl ?_
          refine RW.nil (EX.seq (CW.block ?_))
          -- mq: loop
          refine CW.loop (ι := Nat × Nat) (fun t => [(0, .string (bs s)), (4, v), (5, .int .i64 ((1 + 2 * m : Nat) : Int)), (6, .int .i64 (t.2 : Int)), (7, .int .i64 ((1 + 2 * m + t.1 : Nat) : Int))]) (fun _ => SH w [] [own 5 1 v O.length (EU8.all O)]) (fun t => t.1 ≤ 2 ∧ accX a b t.1 = some t.2) (fun t => 2 - t.1) ?_ ?_
          · exact fun w' hw' => ⟨(0, 0), ⟨Nat.zero_le _, rfl⟩, (by repeat (first | exact Sub.nil | refine Sub.cons (by rfl) ?_)), hw'⟩
          · rintro ⟨q, x⟩ ⟨hq, hacc⟩
            dsimp only at hq hacc ⊢
            refine CW.seq (CW.seq (CW.region ?_))
            refine RW.move rfl rfl ?_
            refine RW.move rfl rfl ?_
            refine RW.add rfl rfl rfl (wrap64 (by omega) (by omega)) ?_
            refine RW.lss rfl rfl rfl ?_
            refine RW.nil (EX.seq ?_)
            -- mq: cond
            first | refine CW.condD rfl (fun hl2 => ?_) (fun hl2 => ?_) | refine CW.cond rfl (fun hl2 => ?_) (fun hl2 => ?_)
            · skip
              obtain rfl | rfl : q = 0 ∨ q = 1 := by omega
              · skip
                have hx16 : x < 16 := by cases hacc; decide
                have hx0 : x = 0 := by cases hacc; rfl
                have hno : hexV a = none → dataF s = ([], 4) := fun hn => dataF_bad ht1 (by rw [hr, hsp, unhexP_no1 hn]; rfl)
                have hyes : ∀ d, hexV a = some d → accX a b 1 = some (16 * x + d) := fun d hd => by rw [hx0]; show hexV a = _; rw [hd]; congr 1; omega
                refine CW.skip (EX.seq (CW.seq (CW.block (CW.seq (CW.region ?_)))))
                refine RW.move rfl rfl ?_
                refine RW.move rfl rfl ?_
                refine RW.ixStr (q := 1 + 2 * m + 0) Tryd.underlying9 rfl rfl rfl (by omega) has ?_
                refine RW.assign rfl rfl ?_
                refine RW.nil (EX.seq (CW.block (CW.seq (CW.region ?_))))
                refine RW.move rfl rfl ?_
                refine RW.geq rfl rfl rfl ?_
                refine RW.move rfl rfl ?_
                -- mq: guard slot 37
                refine RW.casesB 37 rfl (fun h3 => ?_) (fun h3 => ?_)
                · skip
                  have h3p := of_decide_eq_true h3
                  refine RW.guardT rfl rfl h3 ?_
                  refine RW.move rfl rfl ?_
                  refine RW.guardT rfl rfl h3 ?_
                  refine RW.leq rfl rfl rfl ?_
                  refine RW.pickB rfl rfl h3 rfl ?_
                  refine RW.assign rfl rfl ?_
                  refine RW.nil (EX.seq ?_)
                  -- mq: cond
                  first | refine CW.condD rfl (fun h4 => ?_) (fun h4 => ?_) | refine CW.cond rfl (fun h4 => ?_) (fun h4 => ?_)
                  · skip
                    refine CW.region ?_
                    refine RW.move rfl rfl ?_
                    refine RW.mul (r := ((16 * x : Nat) : Int)) rfl rfl rfl (by rw [wrap64 (by omega) (by omega)]; omega) ?_
                    refine RW.move rfl rfl ?_
                    refine RW.convI (r := ((a.toNat : Nat) : Int)) rfl rfl Tryd.underlying5 Tryd.underlying3 (wrap64 (by omega) (by omega)) ?_
                    refine RW.add (r := ((16 * x + a.toNat : Nat) : Int)) rfl rfl rfl (by rw [wrap64 (by omega) (by omega)]; omega) ?_
                    refine RW.sub_ (r := ((16 * x + (a.toNat - 48) : Nat) : Int)) rfl rfl rfl (by rw [wrap64 (by omega) (by omega)]; omega) ?_
                    refine RW.assign rfl rfl ?_
                    refine RW.nil (EX.bkN (EX.bkN (EX.seq (CW.region ?_))))
                    refine RW.move rfl rfl ?_
                    refine RW.add rfl rfl rfl (wrap64 (by omega) (by omega)) ?_
                    refine RW.assign rfl rfl ?_
                    refine RW.nil ?_
                    -- mq: loopend
                    exact EX.lpN (1, 16 * x + (a.toNat - 48)) ⟨by dsimp only; omega, hyes _ (hexV_lo (by omega) (by omega))⟩ (by dsimp only; omega) (by repeat (first | exact Sub.nil | refine Sub.cons (by rfl) ?_)) (fun w' hw' => hw')
                  · skip
                    refine CW.seq (CW.region ?_)
                    refine RW.move rfl rfl ?_
                    refine RW.geq rfl rfl rfl ?_
                    refine RW.move rfl rfl ?_
                    -- mq: guard slot 50
                    refine RW.casesB 50 rfl (fun h5 => ?_) (fun h5 => ?_)
                    · skip
                      have h5p := of_decide_eq_true h5
                      refine RW.guardT rfl rfl h5 ?_
                      refine RW.move rfl rfl ?_
                      refine RW.guardT rfl rfl h5 ?_
                      refine RW.leq rfl rfl rfl ?_
                      refine RW.pickB rfl rfl h5 rfl ?_
                      refine RW.assign rfl rfl ?_
                      refine RW.nil (EX.seq ?_)
                      -- mq: cond
                      first | refine CW.condD rfl (fun h6 => ?_) (fun h6 => ?_) | refine CW.cond rfl (fun h6 => ?_) (fun h6 => ?_)
                      · skip
                        refine CW.region ?_
                        refine RW.move rfl rfl ?_
                        refine RW.mul (r := ((16 * x : Nat) : Int)) rfl rfl rfl (by rw [wrap64 (by omega) (by omega)]; omega) ?_
                        refine RW.move rfl rfl ?_
                        refine RW.convI (r := ((a.toNat : Nat) : Int)) rfl rfl Tryd.underlying5 Tryd.underlying3 (wrap64 (by omega) (by omega)) ?_
                        refine RW.add (r := ((16 * x + a.toNat : Nat) : Int)) rfl rfl rfl (by rw [wrap64 (by omega) (by omega)]; omega) ?_
                        refine RW.sub_ (r := ((16 * x + (a.toNat - 87) : Nat) : Int)) rfl rfl rfl (by rw [wrap64 (by omega) (by omega)]; omega) ?_
                        refine RW.assign rfl rfl ?_
                        refine RW.nil (EX.bkN (EX.bkN (EX.seq (CW.region ?_))))
                        refine RW.move rfl rfl ?_
                        refine RW.add rfl rfl rfl (wrap64 (by omega) (by omega)) ?_
                        refine RW.assign rfl rfl ?_
                        refine RW.nil ?_
                        -- mq: loopend
                        exact EX.lpN (1, 16 * x + (a.toNat - 87)) ⟨by dsimp only; omega, hyes _ (hexV_hi (by omega) (by omega))⟩ (by dsimp only; omega) (by repeat (first | exact Sub.nil | refine Sub.cons (by rfl) ?_)) (fun w' hw' => hw')
                      · skip
                        refine CW.seq (CW.region ?_)
                        refine RW.assign rfl rfl ?_
                        refine RW.assign rfl rfl ?_
                        refine RW.nil (EX.seq (CW.ret (EX.bkR (EX.bkR (EX.seqR (EX.lpR (EX.bkR (EX.seqR (EX.bkR (EX.seqR (EX.lpR (EX.bkR (EX.seqR ?_)))))))))))))
                        refine EX.fin2 Tryd.results30 rfl rfl (fun wz hw => ?_)
                        -- mq: done
                        exact ⟨by rw [hno (hexV_not (by omega) (by omega))]; rfl, hw.ext⟩
                    · skip
                      have h5p := of_decide_eq_false h5
                      refine RW.guardF rfl rfl rfl h5 ?_
                      refine RW.guardF rfl rfl rfl h5 ?_
                      refine RW.pickC rfl rfl h5 rfl ?_
                      refine RW.assign rfl rfl ?_
                      refine RW.nil (EX.seq ?_)
                      -- mq: cond
                      refine CW.condF rfl (rfl) ?_
                      refine CW.seq (CW.region ?_)
                      refine RW.assign rfl rfl ?_
                      refine RW.assign rfl rfl ?_
                      refine RW.nil (EX.seq (CW.ret (EX.bkR (EX.bkR (EX.seqR (EX.lpR (EX.bkR (EX.seqR (EX.bkR (EX.seqR (EX.lpR (EX.bkR (EX.seqR ?_)))))))))))))
                      refine EX.fin2 Tryd.results30 rfl rfl (fun wz hw => ?_)
                      -- mq: done
                      exact ⟨by rw [hno (hexV_not (by omega) (by omega))]; rfl, hw.ext⟩
                · skip
                  have h3p := of_decide_eq_false h3
                  refine RW.guardF rfl rfl rfl h3 ?_
                  refine RW.guardF rfl rfl rfl h3 ?_
                  refine RW.pickC rfl rfl h3 rfl ?_
                  refine RW.assign rfl rfl ?_
                  refine RW.nil (EX.seq ?_)
                  -- mq: cond
                  refine CW.condF rfl (rfl) ?_
                  refine CW.seq (CW.region ?_)
                  refine RW.move rfl rfl ?_
                  refine RW.geq rfl rfl rfl ?_
                  refine RW.move rfl rfl ?_
                  -- mq: guard slot 50
                  refine RW.casesB 50 rfl (fun h5 => ?_) (fun h5 => ?_)
                  · skip
                    have h5p := of_decide_eq_true h5
                    refine RW.guardT rfl rfl h5 ?_
                    refine RW.move rfl rfl ?_
                    refine RW.guardT rfl rfl h5 ?_
                    refine RW.leq rfl rfl rfl ?_
                    refine RW.pickB rfl rfl h5 rfl ?_
                    refine RW.assign rfl rfl ?_
                    refine RW.nil (EX.seq ?_)
                    -- mq: cond
                    first | refine CW.condD rfl (fun h6 => ?_) (fun h6 => ?_) | refine CW.cond rfl (fun h6 => ?_) (fun h6 => ?_)
                    · skip
                      refine CW.region ?_
                      refine RW.move rfl rfl ?_
                      refine RW.mul (r := ((16 * x : Nat) : Int)) rfl rfl rfl (by rw [wrap64 (by omega) (by omega)]; omega) ?_
                      refine RW.move rfl rfl ?_
                      refine RW.convI (r := ((a.toNat : Nat) : Int)) rfl rfl Tryd.underlying5 Tryd.underlying3 (wrap64 (by omega) (by omega)) ?_
                      refine RW.add (r := ((16 * x + a.toNat : Nat) : Int)) rfl rfl rfl (by rw [wrap64 (by omega) (by omega)]; omega) ?_
                      refine RW.sub_ (r := ((16 * x + (a.toNat - 87) : Nat) : Int)) rfl rfl rfl (by rw [wrap64 (by omega) (by omega)]; omega) ?_
                      refine RW.assign rfl rfl ?_
                      refine RW.nil (EX.bkN (EX.bkN (EX.seq (CW.region ?_))))
                      refine RW.move rfl rfl ?_
                      refine RW.add rfl rfl rfl (wrap64 (by omega) (by omega)) ?_
                      refine RW.assign rfl rfl ?_
                      refine RW.nil ?_
                      -- mq: loopend
                      exact EX.lpN (1, 16 * x + (a.toNat - 87)) ⟨by dsimp only; omega, hyes _ (hexV_hi (by omega) (by omega))⟩ (by dsimp only; omega) (by repeat (first | exact Sub.nil | refine Sub.cons (by rfl) ?_)) (fun w' hw' => hw')
                    · skip
                      refine CW.seq (CW.region ?_)
                      refine RW.assign rfl rfl ?_
                      refine RW.assign rfl rfl ?_
                      refine RW.nil (EX.seq (CW.ret (EX.bkR (EX.bkR (EX.seqR (EX.lpR (EX.bkR (EX.seqR (EX.bkR (EX.seqR (EX.lpR (EX.bkR (EX.seqR ?_)))))))))))))
                      refine EX.fin2 Tryd.results30 rfl rfl (fun wz hw => ?_)
                      -- mq: done
                      exact ⟨by rw [hno (hexV_not (by omega) (by omega))]; rfl, hw.ext⟩
                  · skip
                    have h5p := of_decide_eq_false h5
                    refine RW.guardF rfl rfl rfl h5 ?_
                    refine RW.guardF rfl rfl rfl h5 ?_
                    refine RW.pickC rfl rfl h5 rfl ?_
                    refine RW.assign rfl rfl ?_
                    refine RW.nil (EX.seq ?_)
                    -- mq: cond
                    refine CW.condF rfl (rfl) ?_
                    refine CW.seq (CW.region ?_)
                    refine RW.assign rfl rfl ?_
                    refine RW.assign rfl rfl ?_
                    refine RW.nil (EX.seq (CW.ret (EX.bkR (EX.bkR (EX.seqR (EX.lpR (EX.bkR (EX.seqR (EX.bkR (EX.seqR (EX.lpR (EX.bkR (EX.seqR ?_)))))))))))))
                    refine EX.fin2 Tryd.results30 rfl rfl (fun wz hw => ?_)
                    -- mq: done
                    exact ⟨by rw [hno (hexV_not (by omega) (by omega))]; rfl, hw.ext⟩
              · skip
                have hx16 : x < 16 := by exact (hexV_eq hacc).1
                have hno : hexV b = none → dataF s = ([], 4) := fun hn => dataF_bad ht1 (by rw [hr, hsp, unhexP_no2 hn]; rfl)
                have hyes : ∀ d, hexV b = some d → accX a b 2 = some (16 * x + d) := fun d hd => by show (match hexV a, hexV b with | some y, some z => some (16 * y + z) | _, _ => none) = _; rw [show hexV a = some x from hacc, hd]
                refine CW.skip (EX.seq (CW.seq (CW.block (CW.seq (CW.region ?_)))))
                refine RW.move rfl rfl ?_
                refine RW.move rfl rfl ?_
                refine RW.ixStr (q := 1 + 2 * m + 1) Tryd.underlying9 rfl rfl rfl (by omega) hbs ?_
                refine RW.assign rfl rfl ?_
                refine RW.nil (EX.seq (CW.block (CW.seq (CW.region ?_))))
                refine RW.move rfl rfl ?_
                refine RW.geq rfl rfl rfl ?_
                refine RW.move rfl rfl ?_
                -- mq: guard slot 37
                refine RW.casesB 37 rfl (fun h3 => ?_) (fun h3 => ?_)
                · skip
                  have h3p := of_decide_eq_true h3
                  refine RW.guardT rfl rfl h3 ?_
                  refine RW.move rfl rfl ?_
                  refine RW.guardT rfl rfl h3 ?_
                  refine RW.leq rfl rfl rfl ?_
                  refine RW.pickB rfl rfl h3 rfl ?_
                  refine RW.assign rfl rfl ?_
                  refine RW.nil (EX.seq ?_)
                  -- mq: cond
                  first | refine CW.condD rfl (fun h4 => ?_) (fun h4 => ?_) | refine CW.cond rfl (fun h4 => ?_) (fun h4 => ?_)
                  · skip
                    refine CW.region ?_
                    refine RW.move rfl rfl ?_
                    refine RW.mul (r := ((16 * x : Nat) : Int)) rfl rfl rfl (by rw [wrap64 (by omega) (by omega)]; omega) ?_
                    refine RW.move rfl rfl ?_
                    refine RW.convI (r := ((b.toNat : Nat) : Int)) rfl rfl Tryd.underlying5 Tryd.underlying3 (wrap64 (by omega) (by omega)) ?_
                    refine RW.add (r := ((16 * x + b.toNat : Nat) : Int)) rfl rfl rfl (by rw [wrap64 (by omega) (by omega)]; omega) ?_
                    refine RW.sub_ (r := ((16 * x + (b.toNat - 48) : Nat) : Int)) rfl rfl rfl (by rw [wrap64 (by omega) (by omega)]; omega) ?_
                    refine RW.assign rfl rfl ?_
                    refine RW.nil (EX.bkN (EX.bkN (EX.seq (CW.region ?_))))
                    refine RW.move rfl rfl ?_
                    refine RW.add rfl rfl rfl (wrap64 (by omega) (by omega)) ?_
                    refine RW.assign rfl rfl ?_
                    refine RW.nil ?_
                    -- mq: loopend
                    exact EX.lpN (2, 16 * x + (b.toNat - 48)) ⟨by dsimp only; omega, hyes _ (hexV_lo (by omega) (by omega))⟩ (by dsimp only; omega) (by repeat (first | exact Sub.nil | refine Sub.cons (by rfl) ?_)) (fun w' hw' => hw')
                  · skip
                    refine CW.seq (CW.region ?_)
                    refine RW.move rfl rfl ?_
                    refine RW.geq rfl rfl rfl ?_
                    refine RW.move rfl rfl ?_
                    -- mq: guard slot 50
                    refine RW.casesB 50 rfl (fun h5 => ?_) (fun h5 => ?_)
                    · skip
                      have h5p := of_decide_eq_true h5
                      refine RW.guardT rfl rfl h5 ?_
                      refine RW.move rfl rfl ?_
                      refine RW.guardT rfl rfl h5 ?_
                      refine RW.leq rfl rfl rfl ?_
                      refine RW.pickB rfl rfl h5 rfl ?_
                      refine RW.assign rfl rfl ?_
                      refine RW.nil (EX.seq ?_)
                      -- mq: cond
                      first | refine CW.condD rfl (fun h6 => ?_) (fun h6 => ?_) | refine CW.cond rfl (fun h6 => ?_) (fun h6 => ?_)
                      · skip
                        refine CW.region ?_
                        refine RW.move rfl rfl ?_
                        refine RW.mul (r := ((16 * x : Nat) : Int)) rfl rfl rfl (by rw [wrap64 (by omega) (by omega)]; omega) ?_
                        refine RW.move rfl rfl ?_
                        refine RW.convI (r := ((b.toNat : Nat) : Int)) rfl rfl Tryd.underlying5 Tryd.underlying3 (wrap64 (by omega) (by omega)) ?_
                        refine RW.add (r := ((16 * x + b.toNat : Nat) : Int)) rfl rfl rfl (by rw [wrap64 (by omega) (by omega)]; omega) ?_
                        refine RW.sub_ (r := ((16 * x + (b.toNat - 87) : Nat) : Int)) rfl rfl rfl (by rw [wrap64 (by omega) (by omega)]; omega) ?_
                        refine RW.assign rfl rfl ?_
                        refine RW.nil (EX.bkN (EX.bkN (EX.seq (CW.region ?_))))
                        refine RW.move rfl rfl ?_
                        refine RW.add rfl rfl rfl (wrap64 (by omega) (by omega)) ?_
                        refine RW.assign rfl rfl ?_
                        refine RW.nil ?_
                        -- mq: loopend
                        exact EX.lpN (2, 16 * x + (b.toNat - 87)) ⟨by dsimp only; omega, hyes _ (hexV_hi (by omega) (by omega))⟩ (by dsimp only; omega) (by repeat (first | exact Sub.nil | refine Sub.cons (by rfl) ?_)) (fun w' hw' => hw')
                      · skip
                        refine CW.seq (CW.region ?_)
                        refine RW.assign rfl rfl ?_
                        refine RW.assign rfl rfl ?_
                        refine RW.nil (EX.seq (CW.ret (EX.bkR (EX.bkR (EX.seqR (EX.lpR (EX.bkR (EX.seqR (EX.bkR (EX.seqR (EX.lpR (EX.bkR (EX.seqR ?_)))))))))))))
                        refine EX.fin2 Tryd.results30 rfl rfl (fun wz hw => ?_)
                        -- mq: done
                        exact ⟨by rw [hno (hexV_not (by omega) (by omega))]; rfl, hw.ext⟩
                    · skip
                      have h5p := of_decide_eq_false h5
                      refine RW.guardF rfl rfl rfl h5 ?_
                      refine RW.guardF rfl rfl rfl h5 ?_
                      refine RW.pickC rfl rfl h5 rfl ?_
                      refine RW.assign rfl rfl ?_
                      refine RW.nil (EX.seq ?_)
                      -- mq: cond
                      refine CW.condF rfl (rfl) ?_
                      refine CW.seq (CW.region ?_)
                      refine RW.assign rfl rfl ?_
                      refine RW.assign rfl rfl ?_
                      refine RW.nil (EX.seq (CW.ret (EX.bkR (EX.bkR (EX.seqR (EX.lpR (EX.bkR (EX.seqR (EX.bkR (EX.seqR (EX.lpR (EX.bkR (EX.seqR ?_)))))))))))))
                      refine EX.fin2 Tryd.results30 rfl rfl (fun wz hw => ?_)
                      -- mq: done
                      exact ⟨by rw [hno (hexV_not (by omega) (by omega))]; rfl, hw.ext⟩
                · skip
                  have h3p := of_decide_eq_false h3
                  refine RW.guardF rfl rfl rfl h3 ?_
                  refine RW.guardF rfl rfl rfl h3 ?_
                  refine RW.pickC rfl rfl h3 rfl ?_
                  refine RW.assign rfl rfl ?_
                  refine RW.nil (EX.seq ?_)
                  -- mq: cond
                  refine CW.condF rfl (rfl) ?_
                  refine CW.seq (CW.region ?_)
                  refine RW.move rfl rfl ?_
                  refine RW.geq rfl rfl rfl ?_
                  refine RW.move rfl rfl ?_
                  -- mq: guard slot 50
                  refine RW.casesB 50 rfl (fun h5 => ?_) (fun h5 => ?_)
                  · skip
                    have h5p := of_decide_eq_true h5
                    refine RW.guardT rfl rfl h5 ?_
                    refine RW.move rfl rfl ?_
                    refine RW.guardT rfl rfl h5 ?_
                    refine RW.leq rfl rfl rfl ?_
                    refine RW.pickB rfl rfl h5 rfl ?_
                    refine RW.assign rfl rfl ?_
                    refine RW.nil (EX.seq ?_)
                    -- mq: cond
                    first | refine CW.condD rfl (fun h6 => ?_) (fun h6 => ?_) | refine CW.cond rfl (fun h6 => ?_) (fun h6 => ?_)
                    · skip
                      refine CW.region ?_
                      refine RW.move rfl rfl ?_
                      refine RW.mul (r := ((16 * x : Nat) : Int)) rfl rfl rfl (by rw [wrap64 (by omega) (by omega)]; omega) ?_
                      refine RW.move rfl rfl ?_
                      refine RW.convI (r := ((b.toNat : Nat) : Int)) rfl rfl Tryd.underlying5 Tryd.underlying3 (wrap64 (by omega) (by omega)) ?_
                      refine RW.add (r := ((16 * x + b.toNat : Nat) : Int)) rfl rfl rfl (by rw [wrap64 (by omega) (by omega)]; omega) ?_
                      refine RW.sub_ (r := ((16 * x + (b.toNat - 87) : Nat) : Int)) rfl rfl rfl (by rw [wrap64 (by omega) (by omega)]; omega) ?_
                      refine RW.assign rfl rfl ?_
                      refine RW.nil (EX.bkN (EX.bkN (EX.seq (CW.region ?_))))
                      refine RW.move rfl rfl ?_
                      refine RW.add rfl rfl rfl (wrap64 (by omega) (by omega)) ?_
                      refine RW.assign rfl rfl ?_
                      refine RW.nil ?_
                      -- mq: loopend
                      exact EX.lpN (2, 16 * x + (b.toNat - 87)) ⟨by dsimp only; omega, hyes _ (hexV_hi (by omega) (by omega))⟩ (by dsimp only; omega) (by repeat (first | exact Sub.nil | refine Sub.cons (by rfl) ?_)) (fun w' hw' => hw')
                    · skip
                      refine CW.seq (CW.region ?_)
                      refine RW.assign rfl rfl ?_
                      refine RW.assign rfl rfl ?_
                      refine RW.nil (EX.seq (CW.ret (EX.bkR (EX.bkR (EX.seqR (EX.lpR (EX.bkR (EX.seqR (EX.bkR (EX.seqR (EX.lpR (EX.bkR (EX.seqR ?_)))))))))))))
                      refine EX.fin2 Tryd.results30 rfl rfl (fun wz hw => ?_)
                      -- mq: done
                      exact ⟨by rw [hno (hexV_not (by omega) (by omega))]; rfl, hw.ext⟩
                  · skip
                    have h5p := of_decide_eq_false h5
                    refine RW.guardF rfl rfl rfl h5 ?_
                    refine RW.guardF rfl rfl rfl h5 ?_
                    refine RW.pickC rfl rfl h5 rfl ?_
                    refine RW.assign rfl rfl ?_
                    refine RW.nil (EX.seq ?_)
                    -- mq: cond
                    refine CW.condF rfl (rfl) ?_
                    refine CW.seq (CW.region ?_)
                    refine RW.assign rfl rfl ?_
                    refine RW.assign rfl rfl ?_
                    refine RW.nil (EX.seq (CW.ret (EX.bkR (EX.bkR (EX.seqR (EX.lpR (EX.bkR (EX.seqR (EX.bkR (EX.seqR (EX.lpR (EX.bkR (EX.seqR ?_)))))))))))))
                    refine EX.fin2 Tryd.results30 rfl rfl (fun wz hw => ?_)
                    -- mq: done
                    exact ⟨by rw [hno (hexV_not (by omega) (by omega))]; rfl, hw.ext⟩
            · skip
              obtain rfl : q = 2 := by omega
              obtain ⟨y, z, hy, hz, rfl⟩ : ∃ y z, hexV a = some y ∧ hexV b = some z ∧ x = 16 * y + z := by
                have h : (match hexV a, hexV b with | some y, some z => some (16 * y + z) | _, _ => none) = some x := hacc
                cases hy : hexV a with
                | none => rw [hy] at h; cases h
                | some y =>
                  cases hz : hexV b with
                  | none => rw [hy, hz] at h; cases h
                  | some z => rw [hy, hz] at h; exact ⟨y, z, rfl, rfl, (Option.some.inj h).symm⟩
              have hy16 := (hexV_eq hy).1
              have hz16 := (hexV_eq hz).1
              have hcz : (UInt8.ofNat (16 * y + z)).toNat = 16 * y + z := by rw [UInt8.toNat_ofNat']; omega
              rw [unhexP_two hy hz] at hsp
              refine CW.exit (EX.seqE (EX.lpE (EX.bkE (EX.seq ?_))))
              -- mq: region
              refine CW.region ?_
              refine RW.move rfl rfl ?_
              refine RW.move rfl rfl ?_
              refine RW.convI (r := (((UInt8.ofNat (16 * y + z)).toNat : Nat) : Int)) rfl rfl Tryd.underlying3 Tryd.underlying5 (by rw [hcz, wrapN8 (by omega) (by omega)]) ?_
              refine RW.buildSlc sl41 rfl rfl rfl rfl (fun g63 hg63 hf63 => ?_)
              refine RW.append1 sl41 rfl rfl rfl (by first | exact Rem.head | exact Rem.tail Rem.head | exact Rem.tail (Rem.tail Rem.head) | exact Rem.tail (Rem.tail (Rem.tail Rem.head)) | exact Rem.tail (Rem.tail (Rem.tail (Rem.tail Rem.head))) | exact Rem.tail (Rem.tail (Rem.tail (Rem.tail (Rem.tail Rem.head)))) | exact Rem.tail (Rem.tail (Rem.tail (Rem.tail (Rem.tail (Rem.tail Rem.head)))))) (fun _ => by first | exact Upd.head | exact Upd.tail Upd.head | exact Upd.tail (Upd.tail Upd.head) | exact Upd.tail (Upd.tail (Upd.tail Upd.head)) | exact Upd.tail (Upd.tail (Upd.tail (Upd.tail Upd.head))) | exact Upd.tail (Upd.tail (Upd.tail (Upd.tail (Upd.tail Upd.head)))) | exact Upd.tail (Upd.tail (Upd.tail (Upd.tail (Upd.tail (Upd.tail Upd.head)))))) rfl (by repeat (first | exact Ones.nil | exact Enc.ones _ _ | refine Ones.cons rfl ?_)) (by simp only [maxLen]; omega) (by omega) (fun v64 hv64 => ?_)
              refine RW.assign rfl rfl ?_
              refine RW.nil (EX.bkN (EX.seq (CW.region ?_)))
              refine RW.move rfl rfl ?_
              refine RW.add rfl rfl rfl (wrap64 (by omega) (by omega)) ?_
              refine RW.assign rfl rfl ?_
              refine RW.nil ?_
              -- mq: loopend
              refine EX.lpN (m + 1, v64, O ++ [UInt8.ofNat (16 * y + z)]) ⟨by dsimp only; omega, by simp; omega, ?_⟩ (by dsimp only; omega) (by repeat (first | exact Sub.nil | refine Sub.cons (by rfl) ?_)) (fun w' hw' => ?_)
              · dsimp only
                rw [hsp, Option.map_map]
                congr 1
                funext l
                simp
              · dsimp only
                rw [Enc.all_snoc EU8, List.length_append]
                exact hw'
        · skip
          have hje : r.drop (2 * m) = [] := List.drop_eq_nil_of_le (by omega)
          rw [hje] at hsp
          have hsp2 : unhexP r = some O := by rw [hsp]; simp [unhexP]
          have hdf : dataF s = if O.length ≤ 65536 then (O, 0) else ([], 3) := by rw [take_one ht1, hr, dataF_yes, hsp2]
          refine CW.formOwn (v := v) Has.head (fun A4 c4 hv4 hcap4 hmax4 hlen4 hg4 => ?_)
          subst hv4
          refine CW.exit (EX.seqE (EX.lpE (EX.bkE (EX.seq (CW.seq (CW.seq (CW.region ?_)))))))
          refine RW.move rfl rfl ?_
          refine RW.lenSl Tryd.underlying41 rfl rfl ?_
          refine RW.gtr rfl rfl rfl ?_
          refine RW.nil (EX.seq ?_)
          -- mq: cond
          first | refine CW.condD rfl (fun h3 => ?_) (fun h3 => ?_) | refine CW.cond rfl (fun h3 => ?_) (fun h3 => ?_)
          · skip
            refine CW.seq (CW.region ?_)
            refine RW.assign rfl rfl ?_
            refine RW.assign rfl rfl ?_
            refine RW.nil (EX.seq (CW.ret (EX.seqR ?_)))
            refine EX.fin2 Tryd.results30 rfl rfl (fun wz hw => ?_)
            -- mq: done
            exact ⟨by rw [hdf, if_neg (by omega)]; rfl, hw.ext⟩
          · skip
            refine CW.skip (EX.seq (CW.seq (CW.region ?_)))
            refine RW.move rfl rfl ?_
            -- mq: op 1: ('Op.convert', '41', '9', ('Operand.tmp', '68')) -> slot 69 ("ref.go:123")
            refine RW.bytesStr (s := O) (F := fun k => (Value.slice A4 O.length c4).ownBlock = some k) Tryd.underlying41 Tryd.underlying5 Tryd.underlying9 rfl rfl (fun w' hw' => ?_) ?_
            · obtain ⟨A6, c6, he6, hrd6⟩ := Rd.of_own (E := EU8) (hw'.has Has.head) rfl
              cases he6
              exact hrd6
            refine RW.assign rfl rfl ?_
            refine RW.assign rfl rfl ?_
            refine RW.nil (EX.seq (CW.ret ?_))
            refine EX.fin2 Tryd.results30 rfl rfl (fun wz hw => ?_)
            -- mq: done
            exact ⟨by rw [hdf, if_pos (by omega)]; rfl, hw.ext⟩
end Go.Proofs.YtnpafpnameleaaaDoor.Mq
