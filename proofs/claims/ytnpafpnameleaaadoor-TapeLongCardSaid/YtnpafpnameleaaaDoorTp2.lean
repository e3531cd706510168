/- tape: number, bytes -/
import Derived.Test.YtnpafpnameleaaaDoorTp1
import Derived.Test.YtnpafpnameleaaaDoorAto
import Derived.Test.YtnpafpnameleaaaDoorItoa
namespace Go.Proofs.YtnpafpnameleaaaDoor.Mq
open Go Go.RowKit Go.Proofs

theorem numberOk_c (w : World) (hg : Gl w) (s : List UInt8) (n : Int) (hs : s.length ≤ 1000000) (h : numF s = some n) :
    Calls Tryd.prog 38 [.string (bs s)].toArray w (fun e w' => e = .returned (.tuple #[.int .i64 n, .bool true]) ∧ Ext [] w w') := by
  obtain ⟨he, hn⟩ := numF_iff.1 h
  have hok : Lib.atoiAll s = .ok n := he ▸ atoi_itoa hn
  refine calls (n := 20) Tryd.func38 rfl Tryd.ntmps38 rfl ?_
  refine CW.sub (H' := SH w [] []) ?_ (Sub.refl _) (fun x hx => SH.start' _ _ hx)
  refine CW.seq (CW.region ?_)
  refine RW.assign rfl rfl ?_
  refine RW.assign rfl rfl ?_
  refine RW.nil (EX.seq (CW.seq (CW.region ?_)))
  refine RW.move rfl rfl ?_
  -- mq: op 1: ('Op.call', ('Call.mk', ('Callee.value', ('Operand.func', '47')), ('arr', ('Operand.tmp', '7')), ('arr', '9'))) -> slot 8 ("tape.go:77")
  refine RW.call rfl caAto rfl (fun w' _ => atoiOk_c w' s n hs hok) ?_
  refine RW.move rfl rfl ?_
  refine RW.extract rfl rfl rfl ?_
  refine RW.extract rfl rfl rfl ?_
  refine RW.assign rfl rfl ?_
  refine RW.assign rfl rfl ?_
  refine RW.nil (EX.seq (CW.seq ?_))
  -- mq: region
  refine CW.region ?_
  refine RW.move rfl rfl ?_
  refine RW.move rfl rfl ?_
  refine RW.eqlNil (by kernel_rfl) rfl rfl ?_
  refine RW.move rfl rfl ?_
  refine RW.guardT rfl rfl rfl ?_
  refine RW.move rfl rfl ?_
  refine RW.guardT rfl rfl rfl ?_
  refine RW.call rfl caItoa rfl (fun w' hw' => itoa_c w' (hg.ext hw'.ext) n hn) ?_
  refine RW.guardT rfl rfl rfl ?_
  refine RW.move rfl rfl ?_
  refine RW.guardT rfl rfl rfl ?_
  refine RW.eqlS rfl rfl rfl ?_
  refine RW.pickB rfl rfl rfl rfl ?_
  refine RW.assign rfl rfl ?_
  refine RW.assign rfl rfl ?_
  refine RW.nil (EX.seq (CW.ret ?_))
  refine EX.fin2 Tryd.results38 rfl rfl (fun wz hw => ?_)
  -- mq: done
  exact ⟨by rw [decide_eq_true he], hw.ext⟩
def NoNum (v : Value) : Prop := ∃ x, v = .tuple #[.int .i64 x, .bool false]
theorem numberNo_c (w : World) (hg : Gl w) (hge : Ge w) (s : List UInt8) (hs : s.length ≤ 1000000) (h : numF s = none) :
    Calls Tryd.prog 38 [.string (bs s)].toArray w (RetA (fun v _ => NoNum v) w) := by
  by_cases hx : ∃ v, Lib.atoiAll s = .ok v
  · obtain ⟨v, hok⟩ := hx
    have hn : In64 v := Lib.atoiAll_bounds hok
    have he : Lib.itoa v ≠ s := numF_none.1 h v hn
    refine calls (n := 20) Tryd.func38 rfl Tryd.ntmps38 rfl ?_
    refine CW.sub (H' := SH w [] []) ?_ (Sub.refl _) (fun x hx => SH.start' _ _ hx)
    refine CW.seq (CW.region ?_)
    refine RW.assign rfl rfl ?_
    refine RW.assign rfl rfl ?_
    refine RW.nil (EX.seq (CW.seq (CW.region ?_)))
    refine RW.move rfl rfl ?_
    -- mq: op 1: ('Op.call', ('Call.mk', ('Callee.value', ('Operand.func', '47')), ('arr', ('Operand.tmp', '7')), ('arr', '9'))) -> slot 8 ("tape.go:77")
    refine RW.call rfl caAto rfl (fun w' _ => atoiOk_c w' s v hs hok) ?_
    refine RW.move rfl rfl ?_
    refine RW.extract rfl rfl rfl ?_
    refine RW.extract rfl rfl rfl ?_
    refine RW.assign rfl rfl ?_
    refine RW.assign rfl rfl ?_
    refine RW.nil (EX.seq (CW.seq ?_))
    -- mq: region
    refine CW.region ?_
    refine RW.move rfl rfl ?_
    refine RW.move rfl rfl ?_
    refine RW.eqlNil (by kernel_rfl) rfl rfl ?_
    refine RW.move rfl rfl ?_
    refine RW.guardT rfl rfl rfl ?_
    refine RW.move rfl rfl ?_
    refine RW.guardT rfl rfl rfl ?_
    refine RW.call rfl caItoa rfl (fun w' hw' => itoa_c w' (hg.ext hw'.ext) v hn) ?_
    refine RW.guardT rfl rfl rfl ?_
    refine RW.move rfl rfl ?_
    refine RW.guardT rfl rfl rfl ?_
    refine RW.eqlS rfl rfl rfl ?_
    refine RW.pickB rfl rfl rfl rfl ?_
    refine RW.assign rfl rfl ?_
    refine RW.assign rfl rfl ?_
    refine RW.nil (EX.seq (CW.ret ?_))
    refine EX.fin2 Tryd.results38 rfl rfl (fun wz hw => ?_)
    -- mq: done
    exact ⟨_, rfl, hw.ext, v, by rw [decide_eq_false he]⟩
  · skip
    refine calls (n := 20) Tryd.func38 rfl Tryd.ntmps38 rfl ?_
    refine CW.sub (H' := SH w [] []) ?_ (Sub.refl _) (fun x hx => SH.start' _ _ hx)
    refine CW.seq (CW.region ?_)
    refine RW.assign rfl rfl ?_
    refine RW.assign rfl rfl ?_
    refine RW.nil (EX.seq (CW.seq ?_))
    -- mq: region
    refine CW.region ?_
    refine RW.move rfl rfl ?_
    -- mq: at
    refine RW.callA (R := fun _ v _ => IsErr v) rfl caAto rfl (fun w' hw' => atoiNo_c w' (hge.ext hw'.ext) s hs (fun v hv => hx ⟨v, hv⟩)) (fun w1 w2 v hw1 he12 hw2 hlt hv => ?_)
    obtain ⟨y, t, p, rfl⟩ := hv
    have hx12 := hw1.ext.trans0 he12
    refine RW.move rfl rfl ?_
    refine RW.extract rfl rfl rfl ?_
    refine RW.extract rfl rfl rfl ?_
    refine RW.assign rfl rfl ?_
    refine RW.assign rfl rfl ?_
    refine RW.nil (EX.seq (CW.seq ?_))
    -- mq: region
    refine CW.region ?_
    refine RW.move rfl rfl ?_
    refine RW.move rfl rfl ?_
    refine RW.eqlErr (by kernel_rfl) rfl rfl ?_
    refine RW.move rfl rfl ?_
    refine RW.guardF rfl rfl rfl rfl ?_
    refine RW.guardF rfl rfl rfl rfl ?_
    refine RW.guardF rfl rfl rfl rfl ?_
    refine RW.guardF rfl rfl rfl rfl ?_
    refine RW.pickC rfl rfl rfl rfl ?_
    refine RW.assign rfl rfl ?_
    refine RW.assign rfl rfl ?_
    refine RW.nil (EX.seq (CW.ret ?_))
    refine EX.fin2 Tryd.results38 rfl rfl (fun wz hw => ?_)
    -- mq: done
    exact ⟨_, rfl, hx12.trans0 hw.ext, y, rfl⟩
/- bytes -/
theorem unhexP_len {r l : List UInt8} (h : unhexP r = some l) : r.length = 2 * l.length := by
  rw [hex_unhex _ r l (Nat.le_refl _) h, hexP_len]
theorem dataF_no {s : List UInt8} (h : s.take 1 ≠ [61]) : dataF s = ([], 4) := by
  unfold dataF
  split
  · exact absurd rfl h
  · rfl
theorem take_one {s : List UInt8} {c : UInt8} (h : s.take 1 = [c]) : s = c :: s.drop 1 := by
  cases s with
  | nil => cases h
  | cons a r => simp at h; rw [h]; rfl
theorem dataF_yes (r : List UInt8) : dataF (61 :: r) = match unhexP r with | some l => if l.length ≤ 65536 then (l, 0) else ([], 3) | none => ([], 4) := rfl
theorem dataF_bad {s : List UInt8} (h : s.take 1 = [61]) (hn : unhexP (s.drop 1) = none) : dataF s = ([], 4) := by
  rw [take_one h, dataF_yes, hn]
set_option maxRecDepth 100000 in
theorem or16 : ∀ a b : _root_.Fin 16, a.val * 16 ||| b.val = a.val * 16 + b.val := by decide
theorem or_16 {x y : Nat} (hx : x < 16) (hy : y < 16) : x * 16 ||| y = x * 16 + y := or16 ⟨x, hx⟩ ⟨y, hy⟩
theorem digI_some {c : UInt8} {k : Nat} (h : hexV c = some k) : digI c = k := by rw [digI, h]
theorem digI_none {c : UInt8} (h : hexV c = none) : digI c = -1 := by rw [digI, h]
theorem unhexP_two {a b : UInt8} {x y : Nat} {r : List UInt8} (ha : hexV a = some x) (hb : hexV b = some y) : unhexP (a :: b :: r) = (unhexP r).map (fun l => UInt8.ofNat (16 * x + y) :: l) := by
  rw [unhexP, ha, hb]
  cases unhexP r <;> rfl
theorem unhexP_no1 {a b : UInt8} {r : List UInt8} (ha : hexV a = none) : unhexP (a :: b :: r) = none := by rw [unhexP, ha]
theorem unhexP_no2 {a b : UInt8} {r : List UInt8} (hb : hexV b = none) : unhexP (a :: b :: r) = none := by
  rw [unhexP, hb]
  cases hexV a <;> rfl
theorem bytes_c (w : World) (s : List UInt8) (hs : s.length ≤ 1000000) :
    Calls Tryd.prog 39 [.string (bs s)].toArray w (fun e w' => e = .returned (.tuple #[.string (bs (dataF s).1), .int .i64 ((dataF s).2 : Int)]) ∧ Ext [] w w') := by
  refine calls (n := 61) Tryd.func39 rfl Tryd.ntmps39 rfl ?_
  refine CW.sub (H' := SH w [] []) ?_ (Sub.refl _) (fun x hx => SH.start' _ _ hx)
  refine CW.seq (CW.region ?_)
  refine RW.assign rfl rfl ?_
  refine RW.assign rfl rfl ?_
  refine RW.nil (EX.seq (CW.seq (CW.region ?_)))
  refine RW.move rfl rfl ?_
  -- mq: op 1: ('Op.call', ('Call.mk', ('Callee.value', ('Operand.func', '48')), ('arr', ('Operand.tmp', '11'), ('Operand.const', ('Value.string', ('ByteArray.mk', ('arr', '61'))))), ('arr', '9', '9'))) -> slot 12 ("tape.go:57")
  refine RW.call rfl ca48 rfl (fun w' _ => cutPrefix_c w' s [61] (by omega) (by decide)) ?_
  refine RW.move rfl rfl ?_
  refine RW.extract rfl rfl rfl ?_
  refine RW.extract rfl rfl rfl ?_
  refine RW.assign rfl rfl ?_
  refine RW.assign rfl rfl ?_
  refine RW.nil (EX.seq (CW.seq (CW.seq ?_)))
  -- mq: region
  by_cases hp : s.take 1 = [61]
  · skip
    rw [show (if s.take ([61] : List UInt8).length = [61] then s.drop ([61] : List UInt8).length else s) = s.drop 1 from if_pos hp, show decide (s.take ([61] : List UInt8).length = [61]) = true from decide_eq_true hp]
    generalize hr : s.drop 1 = r
    have hrl : r.length ≤ s.length := by rw [← hr, List.length_drop]; omega
    refine CW.region ?_
    refine RW.move rfl rfl ?_
    refine RW.not_ rfl rfl ?_
    -- mq: at
    refine RW.move rfl rfl ?_
    refine RW.guardT rfl rfl rfl ?_
    refine RW.move rfl rfl ?_
    refine RW.guardT rfl rfl rfl ?_
    refine RW.lenS Tryd.underlying9 rfl rfl ?_
    refine RW.guardT rfl rfl rfl ?_
    refine RW.rem (r := ((r.length % 2 : Nat) : Int)) rfl rfl rfl (by decide) rfl ?_
    refine RW.guardT rfl rfl rfl ?_
    refine RW.neqI rfl rfl rfl ?_
    refine RW.pickC rfl rfl rfl rfl ?_
    refine RW.nil (EX.seq ?_)
    -- mq: cond
    first | refine CW.condD rfl (fun h1 => ?_) (fun h1 => ?_) | refine CW.cond rfl (fun h1 => ?_) (fun h1 => ?_)
    · skip
      have hn : unhexP r = none := by
        cases hu : unhexP r with
        | none => rfl
        | some l => have := unhexP_len hu; omega
      refine CW.seq (CW.region ?_)
      refine RW.assign rfl rfl ?_
      refine RW.assign rfl rfl ?_
      refine RW.nil (EX.seq (CW.ret (EX.seqR ?_)))
      refine EX.fin2 Tryd.results39 rfl rfl (fun wz hw => ?_)
      -- mq: done
      exact ⟨by rw [dataF_bad hp (hr ▸ hn)]; rfl, hw.ext⟩
    · skip
      refine CW.skip (EX.seq (CW.seq (CW.region ?_)))
      refine RW.move rfl rfl ?_
      refine RW.lenS Tryd.underlying9 rfl rfl ?_
      refine RW.quo (r := ((r.length / 2 : Nat) : Int)) rfl rfl rfl (by decide) (wrap64 (z := ((r.length / 2 : Nat) : Int)) (by omega) (by omega)) ?_
      refine RW.makeE (r.length / 2) sl41 rfl rfl rfl rfl (by simp only [maxLen]; omega) (by omega) (fun g hgl hgf => ?_)
      refine RW.assign rfl rfl ?_
      refine RW.nil (EX.seq (CW.seq (CW.seq (CW.region ?_))))
      refine RW.assign rfl rfl ?_
      refine RW.nil (EX.seq (CW.block ?_))
      -- mq: loop
      refine CW.loop (ι := Nat × Value × List UInt8) (fun t => [(4, .string (bs r)), (6, t.2.1), (7, .int .i64 ((2 * t.1 : Nat) : Int))]) (fun t => SH w [] [own 5 1 t.2.1 t.2.2.length (EU8.all t.2.2)]) (fun t => 2 * t.1 ≤ r.length ∧ t.2.2.length = t.1 ∧ unhexP r = (unhexP (r.drop (2 * t.1))).map (fun l => t.2.2 ++ l)) (fun t => r.length - 2 * t.1) ?_ ?_
      · exact fun w' hw' => ⟨(0, _, []), ⟨Nat.zero_le _, rfl, by simp⟩, (by repeat (first | exact Sub.nil | refine Sub.cons (by rfl) ?_)), hw'⟩
      · rintro ⟨j, v, O⟩ ⟨hj, hO, hsp⟩
        dsimp only at hj hO hsp ⊢
        refine CW.seq (CW.seq (CW.region ?_))
        refine RW.move rfl rfl ?_
        refine RW.move rfl rfl ?_
        refine RW.lenS Tryd.underlying9 rfl rfl ?_
        refine RW.lss rfl rfl rfl ?_
        refine RW.nil (EX.seq ?_)
        -- mq: cond
        first | refine CW.condD rfl (fun hlt => ?_) (fun hlt => ?_) | refine CW.cond rfl (fun hlt => ?_) (fun hlt => ?_)
        · skip
          obtain ⟨a, ha⟩ : ∃ a, r[2 * j]? = some a := ⟨r[2 * j]'(by omega), List.getElem?_eq_getElem _⟩
          obtain ⟨b, hb⟩ : ∃ b, r[2 * j + 1]? = some b := ⟨r[2 * j + 1]'(by omega), List.getElem?_eq_getElem _⟩
          have hd : r.drop (2 * j) = a :: b :: r.drop (2 * (j + 1)) := by
            rw [List.drop_eq_getElem_cons (by omega), (List.getElem?_eq_some_iff.1 ha).2, List.drop_eq_getElem_cons (by omega), (List.getElem?_eq_some_iff.1 hb).2]
            rfl
          rw [hd] at hsp
          refine CW.skip (EX.seq (CW.seq (CW.block (CW.seq ?_))))
          -- mq: region
          refine CW.drawU [0, 1, 2, 4, 5, 6, 7] 2 [[(3, false, []), (8, false, [9, 10])]] (fun _ => True) mixed (by kernel_rfl) (fun _ hw => hw.drew) (fun _ h => (by first | trivial | exact h | exact h.ch | exact (h.rem Rem.head).ch | exact ((h.rem Rem.head).rem Rem.head).ch | exact (((h.rem Rem.head).rem Rem.head).rem Rem.head).ch)) ?_
          refine QuP.cons rfl (fun wq hq => (RW.move rfl rfl RW.jn)) ?_
          refine QuP.cons rfl (fun wq hq => (RW.move rfl rfl RW.jn)) ?_
          refine QuP.cons rfl (fun wq hq => (RW.ixStr (q := 2 * j) Tryd.underlying9 rfl rfl rfl (by omega) ha RW.jn)) ?_
          refine QuP.cons rfl (fun wq hq => (RW.move rfl rfl RW.jn)) ?_
          refine QuP.cons rfl (fun wq hq => (RW.move rfl rfl RW.jn)) ?_
          refine QuP.cons rfl (fun wq hq => (RW.add rfl rfl rfl (wrap64 (by omega) (by omega)) RW.jn)) ?_
          refine QuP.cons rfl (fun wq hq => (RW.ixStr (q := 2 * j + 1) Tryd.underlying9 rfl rfl rfl (by omega) hb RW.jn)) ?_
          refine QuP.nil ?_
          refine UW.step [_] rfl (List.forall_mem_cons.2 ⟨?_, by simp⟩)
          refine RW.call rfl ca49 rfl (fun w' _ => digit_c w' a) ?_
          refine RW.st (fun _ => True) (fun _ h => .inr (by first | trivial | exact h | exact h.ch | exact (h.rem Rem.head).ch | exact ((h.rem Rem.head).rem Rem.head).ch | exact (((h.rem Rem.head).rem Rem.head).rem Rem.head).ch)) (fun _ h => trivial) ?_
          refine QuP.nil ?_
          refine UW.step [_] rfl (List.forall_mem_cons.2 ⟨?_, by simp⟩)
          refine RW.call rfl ca49 rfl (fun w' _ => digit_c w' b) ?_
          refine RW.st (fun _ => True) (fun _ h => .inr ⟨.inr (by first | trivial | exact h | exact h.ch | exact (h.rem Rem.head).ch | exact ((h.rem Rem.head).rem Rem.head).ch | exact (((h.rem Rem.head).rem Rem.head).rem Rem.head).ch), trivial⟩) (fun _ h => trivial) ?_
          refine QuP.cons rfl (fun wq hq => (RW.assign rfl rfl RW.jn)) ?_
          refine QuP.cons rfl (fun wq hq => (RW.assign rfl rfl RW.jn)) ?_
          refine QuP.nil ?_
          refine UW.nil (EX.seq (CW.seq (CW.seq ?_)))
          -- mq: region
          cases hva : hexV a with
          | none =>
            rw [digI_none hva]
            rw [unhexP_no1 hva] at hsp
            refine CW.region ?_
            refine RW.move rfl rfl ?_
            refine RW.lss rfl rfl rfl ?_
            refine RW.move rfl rfl ?_
            -- mq: guard slot 44
            refine RW.casesB 44 rfl (fun h2 => ?_) (fun h2 => ?_)
            · skip
              have h2p := of_decide_eq_true h2
              refine RW.guardF rfl rfl rfl h2 ?_
              refine RW.guardF rfl rfl rfl h2 ?_
              refine RW.pickB rfl rfl h2 rfl ?_
              refine RW.nil (EX.seq ?_)
              -- mq: cond
              refine CW.condT rfl (rfl) ?_
              refine CW.seq (CW.region ?_)
              refine RW.assign rfl rfl ?_
              refine RW.assign rfl rfl ?_
              refine RW.nil (EX.seq (CW.ret (EX.seqR (EX.bkR (EX.seqR (EX.lpR (EX.bkR (EX.seqR ?_))))))))
              refine EX.fin2 Tryd.results39 rfl rfl (fun wz hw => ?_)
              -- mq: done
              exact ⟨by rw [dataF_bad hp (hr ▸ hsp)]; rfl, hw.ext⟩
            · skip
              have h2p := of_decide_eq_false h2
              exact absurd h2 (by decide)
          | some x =>
            obtain ⟨hx, _⟩ := hexV_eq hva
            rw [digI_some hva]
            refine CW.region ?_
            refine RW.move rfl rfl ?_
            refine RW.lss rfl rfl rfl ?_
            refine RW.move rfl rfl ?_
            -- mq: guard slot 44
            refine RW.casesB 44 rfl (fun h2 => ?_) (fun h2 => ?_)
            · skip
              have h2p := of_decide_eq_true h2
              omega
            · skip
              have h2p := of_decide_eq_false h2
              cases hvb : hexV b with
              | none =>
                rw [digI_none hvb]
                rw [unhexP_no2 hvb] at hsp
                refine RW.guardT rfl rfl h2 ?_
                refine RW.move rfl rfl ?_
                refine RW.guardT rfl rfl h2 ?_
                refine RW.lss rfl rfl rfl ?_
                refine RW.pickC rfl rfl h2 rfl ?_
                refine RW.nil (EX.seq ?_)
                -- mq: cond
                refine CW.condT rfl (rfl) ?_
                refine CW.seq (CW.region ?_)
                refine RW.assign rfl rfl ?_
                refine RW.assign rfl rfl ?_
                refine RW.nil (EX.seq (CW.ret (EX.seqR (EX.bkR (EX.seqR (EX.lpR (EX.bkR (EX.seqR ?_))))))))
                refine EX.fin2 Tryd.results39 rfl rfl (fun wz hw => ?_)
                -- mq: done
                exact ⟨by rw [dataF_bad hp (hr ▸ hsp)]; rfl, hw.ext⟩
              | some y =>
                obtain ⟨hy, _⟩ := hexV_eq hvb
                rw [digI_some hvb]
                rw [unhexP_two hva hvb] at hsp
                refine RW.guardT rfl rfl h2 ?_
                refine RW.move rfl rfl ?_
                refine RW.guardT rfl rfl h2 ?_
                refine RW.lss rfl rfl rfl ?_
                refine RW.pickC rfl rfl h2 rfl ?_
                refine RW.nil (EX.seq ?_)
                -- mq: cond
                refine CW.condF rfl ((by rw [decide_eq_false]; omega)) ?_
                have hcz : (UInt8.ofNat (16 * x + y)).toNat = 16 * x + y := by rw [UInt8.toNat_ofNat']; omega
                refine CW.skip (EX.seq (CW.region ?_))
                refine RW.move rfl rfl ?_
                refine RW.move rfl rfl ?_
                refine RW.shlN (r := ((x * 16 : Nat) : Int)) rfl rfl rfl (by decide) (by rw [show min (4 : Int).toNat IntKind.i64.bits = 4 by rfl, show (2 : Int) ^ 4 = 16 by rfl, wrap64 (by omega) (by omega)]; omega) ?_
                refine RW.move rfl rfl ?_
                refine RW.or_ (r := ((x * 16 + y : Nat) : Int)) rfl rfl rfl (or_eq (m := x * 16) (n := y) rfl (by omega) (show _ < 18446744073709551616 by omega) (show _ < 18446744073709551616 by omega) (by rw [or_16 hx hy]; exact wrap64 (by omega) (by omega))) ?_
                refine RW.convI (r := (((UInt8.ofNat (16 * x + y)).toNat : Nat) : Int)) rfl rfl Tryd.underlying3 Tryd.underlying5 (by rw [hcz, wrapN8 (by omega) (by omega)]; omega) ?_
                refine RW.buildSlc sl41 rfl rfl rfl rfl (fun g54 hg54 hf54 => ?_)
                refine RW.append1 sl41 rfl rfl rfl (by first | exact Rem.head | exact Rem.tail Rem.head | exact Rem.tail (Rem.tail Rem.head) | exact Rem.tail (Rem.tail (Rem.tail Rem.head)) | exact Rem.tail (Rem.tail (Rem.tail (Rem.tail Rem.head))) | exact Rem.tail (Rem.tail (Rem.tail (Rem.tail (Rem.tail Rem.head)))) | exact Rem.tail (Rem.tail (Rem.tail (Rem.tail (Rem.tail (Rem.tail Rem.head)))))) (fun _ => by first | exact Upd.head | exact Upd.tail Upd.head | exact Upd.tail (Upd.tail Upd.head) | exact Upd.tail (Upd.tail (Upd.tail Upd.head)) | exact Upd.tail (Upd.tail (Upd.tail (Upd.tail Upd.head))) | exact Upd.tail (Upd.tail (Upd.tail (Upd.tail (Upd.tail Upd.head)))) | exact Upd.tail (Upd.tail (Upd.tail (Upd.tail (Upd.tail (Upd.tail Upd.head)))))) rfl (by repeat (first | exact Ones.nil | exact Enc.ones _ _ | refine Ones.cons rfl ?_)) (by simp only [maxLen]; omega) (by omega) (fun v55 hv55 => ?_)
                refine RW.assign rfl rfl ?_
                refine RW.nil (EX.bkN (EX.seq (CW.region ?_)))
                refine RW.move rfl rfl ?_
                refine RW.add rfl rfl rfl (wrap64 (by omega) (by omega)) ?_
                refine RW.assign rfl rfl ?_
                refine RW.nil ?_
                -- mq: loopend
                refine EX.lpN (j + 1, v55, O ++ [UInt8.ofNat (16 * x + y)]) ⟨by dsimp only; omega, by simp; omega, ?_⟩ (by dsimp only; omega) (by repeat (first | exact Sub.nil | refine Sub.cons (by rfl) ?_)) (fun w' hw' => ?_)
                · dsimp only
                  rw [hsp, Option.map_map]
                  congr 1
                  funext l
                  simp
                · dsimp only
                  rw [Enc.all_snoc EU8, List.length_append]
                  exact hw'
        · skip
          have hje : r.drop (2 * j) = [] := List.drop_eq_nil_of_le (by omega)
          rw [hje] at hsp
          have hsp2 : unhexP r = some O := by rw [hsp]; simp [unhexP]
          have hdf : dataF s = if O.length ≤ 65536 then (O, 0) else ([], 3) := by rw [take_one hp, hr, dataF_yes, hsp2]
          refine CW.formOwn (v := v) Has.head (fun A4 c4 hv4 hcap4 hmax4 hlen4 hg4 => ?_)
          subst hv4
          refine CW.exit (EX.seqE (EX.lpE (EX.bkE (EX.seq (CW.seq (CW.seq (CW.region ?_)))))))
          refine RW.move rfl rfl ?_
          refine RW.lenSl Tryd.underlying41 rfl rfl ?_
          refine RW.gtr rfl rfl rfl ?_
          refine RW.nil (EX.seq ?_)
          -- mq: cond
          first | refine CW.condD rfl (fun h3 => ?_) (fun h3 => ?_) | refine CW.cond rfl (fun h3 => ?_) (fun h3 => ?_)
          · skip
            refine CW.seq (CW.region ?_)
            refine RW.assign rfl rfl ?_
            refine RW.assign rfl rfl ?_
            refine RW.nil (EX.seq (CW.ret (EX.seqR ?_)))
            refine EX.fin2 Tryd.results39 rfl rfl (fun wz hw => ?_)
            -- mq: done
            exact ⟨by rw [hdf, if_neg (by omega)]; rfl, hw.ext⟩
          · skip
            refine CW.skip (EX.seq (CW.seq (CW.region ?_)))
            refine RW.move rfl rfl ?_
            -- mq: op 1: ('Op.convert', '41', '9', ('Operand.tmp', '59')) -> slot 60 ("tape.go:72")
            refine RW.bytesStr (s := O) (F := fun k => (Value.slice A4 O.length c4).ownBlock = some k) Tryd.underlying41 Tryd.underlying5 Tryd.underlying9 rfl rfl (fun w' hw' => ?_) ?_
            · obtain ⟨A6, c6, he6, hrd6⟩ := Rd.of_own (E := EU8) (hw'.has Has.head) rfl
              cases he6
              exact hrd6
            refine RW.assign rfl rfl ?_
            refine RW.assign rfl rfl ?_
            refine RW.nil (EX.seq (CW.ret ?_))
            refine EX.fin2 Tryd.results39 rfl rfl (fun wz hw => ?_)
            -- mq: done
            exact ⟨by rw [hdf, if_pos (by omega)]; rfl, hw.ext⟩
  · skip
    rw [show decide (s.take ([61] : List UInt8).length = [61]) = false from decide_eq_false hp]
    refine CW.region ?_
    refine RW.move rfl rfl ?_
    refine RW.not_ rfl rfl ?_
    -- mq: at
    refine RW.move rfl rfl ?_
    refine RW.guardF rfl rfl rfl rfl ?_
    refine RW.guardF rfl rfl rfl rfl ?_
    refine RW.guardF rfl rfl rfl rfl ?_
    refine RW.guardF rfl rfl rfl rfl ?_
    refine RW.pickB rfl rfl rfl rfl ?_
    refine RW.nil (EX.seq ?_)
    -- mq: cond
    refine CW.condT rfl (rfl) ?_
    refine CW.seq (CW.region ?_)
    refine RW.assign rfl rfl ?_
    refine RW.assign rfl rfl ?_
    refine RW.nil (EX.seq (CW.ret (EX.seqR ?_)))
    refine EX.fin2 Tryd.results39 rfl rfl (fun wz hw => ?_)
    -- mq: done
    exact ⟨by rw [dataF_no hp]; rfl, hw.ext⟩
end Go.Proofs.YtnpafpnameleaaaDoor.Mq
