/- dump: the reader of a text -/
import Derived.Test.YtnkdabjahmjdoaaDoorR3
namespace Go.Proofs.YtnkdabjahmjdoaaDoor.Mq
open Go Go.RowKit Go.Proofs

def TextR (x : List UInt8) (bad : Bool) (i : List UInt8 × Bool) : Prop := (∀ d, hexT d = x → i = (d, bad)) ∧ ((∀ d, hexT d ≠ x) → i.2 = true) ∧ i.1.length ≤ x.length
theorem u8_of_int (x : Int) : IntKind.u8.wrap x = ((UInt8.ofNat (IntKind.u8.wrap x).toNat).toNat : Int) := by
  rw [UInt8.toNat_ofNat', IntKind.wrap_u8]; omega
theorem hexP_get {d : List UInt8} {j : Nat} {c : UInt8} (h : d[j]? = some c) : hexP d = hexP (d.take j) ++ hexDig (c.toNat / 16) :: hexDig (c.toNat % 16) :: hexP (d.drop (j + 1)) := by
  have hlt := (List.getElem?_eq_some_iff.1 h).1
  conv => lhs; rw [← List.take_append_drop j d, List.drop_eq_getElem_cons hlt, (List.getElem?_eq_some_iff.1 h).2]
  simp [hexP, hex2]
theorem text_step {d r : List UInt8} {j : Nat} {a b : UInt8} (hr : r = hexP d) (ha : r[2 * j]? = some a) (hb : r[2 * j + 1]? = some b) :
    ∃ c, d[j]? = some c ∧ hexV a = some (c.toNat / 16) ∧ hexV b = some (c.toNat % 16) := by
  have hl := hexP_len d
  have hlt := (List.getElem?_eq_some_iff.1 ha).1
  rw [hr] at hlt
  obtain ⟨c, hc⟩ : ∃ c, d[j]? = some c := ⟨d[j]'(by omega), List.getElem?_eq_getElem _⟩
  have hc8 := UInt8.toNat_lt c
  have hp : (hexP (d.take j)).length = 2 * j := by rw [hexP_len, List.length_take]; omega
  have e := hexP_get hc
  rw [hr, e, List.getElem?_append_right (by omega), hp, Nat.sub_self] at ha
  rw [hr, e, List.getElem?_append_right (by omega), hp, show 2 * j + 1 - 2 * j = 1 by omega] at hb
  cases ha
  cases hb
  exact ⟨c, hc, hexV_dig _ (by omega), hexV_dig _ (by omega)⟩
theorem textR_c (w : World) (g : Nat) (hG : GR w g) (s : WS) (bad : Bool) (F : Nat → Prop) (x : List UInt8) (L : List (List UInt8)) (hr : RdW w F s (x :: L)) (hF : ¬ F g) (hxl : x.length ≤ 1000000) (h : (rdr g s bad).pred w) :
    Calls Tryd.prog 39 [.pointer (some ⟨g, 0, none⟩)].toArray w (RetU (fun i : List UInt8 × Bool => .string (bs i.1)) (rdr g s bad) (fun i => rdr g s.adv i.2) (TextR x bad) w) := by
  refine calls (n := 65) Tryd.func39 rfl Tryd.ntmps39 rfl ?_
  refine CW.sub (H' := SH w (rdr g s bad).foot [rdr g s bad]) ?_ (Sub.refl _) (fun x hx => SH.startOf' hx h (by simp [blk]))
  refine CW.seq (CW.region ?_)
  refine RW.assign rfl rfl ?_
  refine RW.nil (EX.seq (CW.seq ?_))
  -- mq: region
  refine CW.region ?_
  refine RW.move rfl rfl ?_
  refine RW.nilChk rfl rfl ?_
  refine RW.fieldP fl68x0 rfl rfl ?_
  refine RW.callUI (fun _ => [rdr g s.adv bad]) rfl ca34 rfl (fun _ => Upd.head) (fun w' hw' => next_c w' g s bad F x L (hFext hr hF hw'.ext) hF (hw'.has Has.head)) (fun _ _ => ?_)
  refine RW.assign rfl rfl ?_
  refine RW.nil (EX.seq (CW.seq ?_))
  -- mq: region
  refine CW.region ?_
  refine RW.move rfl rfl ?_
  refine RW.call rfl ca58 rfl (fun w' _ => cutPrefix_c w' x [61] (by omega) (by decide)) ?_
  refine RW.move rfl rfl ?_
  refine RW.extract rfl rfl rfl ?_
  refine RW.extract rfl rfl rfl ?_
  refine RW.assign rfl rfl ?_
  refine RW.assign rfl rfl ?_
  refine RW.nil (EX.seq (CW.seq (CW.region ?_)))
  refine RW.assign rfl rfl ?_
  refine RW.nil (EX.seq (CW.seq (CW.seq ?_)))
  -- mq: region
  obtain ⟨r, ok0, hrl, hr0, hok0, hspec⟩ : ∃ r ok0, r.length ≤ x.length ∧ r = (if x.take ([61] : List UInt8).length = [61] then x.drop ([61] : List UInt8).length else x) ∧ ok0 = decide (x.take ([61] : List UInt8).length = [61]) ∧ (∀ d, hexT d = x → ok0 = true ∧ r = hexP d) := by
    refine ⟨_, _, ?_, rfl, rfl, fun d hd => ?_⟩
    · split
      · rw [List.length_drop]; omega
      · omega
    · subst hd
      exact ⟨by rfl, by rfl⟩
  rw [← hr0, ← hok0]
  refine CW.ownNil 5 1 ?_
  refine CW.region ?_
  refine RW.assign rfl rfl ?_
  refine RW.nil (EX.seq (CW.block ?_))
  -- mq: loop
  refine CW.loop (ι := Nat × Bool × Value × List UInt8) (fun t => [(0, .pointer (some ⟨g, 0, none⟩)), (3, .string (bs x)), (4, .string (bs r)), (5, .bool t.2.1), (6, t.2.2.1), (7, .int .i64 ((2 * t.1 : Nat) : Int))]) (fun t => SH w (rdr g s bad).foot [own 5 1 t.2.2.1 t.2.2.2.length (EU8.all t.2.2.2), rdr g s.adv bad]) (fun t => 2 * t.1 ≤ r.length ∧ t.2.2.2.length = t.1 ∧ (∀ d, hexT d = x → t.2.1 = true ∧ t.2.2.2 = d.take t.1)) (fun t => r.length - 2 * t.1) ?_ ?_
  · exact fun w' hw' => ⟨(0, ok0, _, []), ⟨Nat.zero_le _, rfl, fun d hd => ⟨(hspec d hd).1, by simp⟩⟩, (by repeat (first | exact Sub.nil | refine Sub.cons (by rfl) ?_)), hw'⟩
  · rintro ⟨j, ok, v, O⟩ ⟨hj, hO, hsp⟩
    dsimp only at hj hO hsp ⊢
    have hfin : ∀ y : Bool, y = (bad || !ok || decide (hexT O ≠ x)) → (2 * j + 1 < r.length → ok = false) → TextR x bad (O, y) := by
      intro y hy hend
      refine ⟨fun d hd => ?_, fun hno => ?_, by dsimp only; omega⟩
      · obtain ⟨h1, h2⟩ := hsp d hd
        obtain ⟨_, h3⟩ := hspec d hd
        have hl := hexP_len d
        have hle : ¬ 2 * j + 1 < r.length := fun h => by rw [h1] at hend; cases hend h
        have e : O = d := by rw [h2]; exact List.take_of_length_le (by rw [h3] at hle; omega)
        rw [hy, h1, e, decide_eq_false (fun h => h hd)]
        cases bad <;> rfl
      · show y = true
        rw [hy, decide_eq_true (hno O)]
        cases bad <;> cases ok <;> rfl
    refine CW.seq (CW.seq (CW.region ?_))
    refine RW.move rfl rfl ?_
    refine RW.move rfl rfl ?_
    -- mq: guard slot 20
    cases ok with
    | true =>
      refine RW.guardT rfl rfl rfl ?_
      refine RW.move rfl rfl ?_
      refine RW.guardT rfl rfl rfl ?_
      refine RW.add rfl rfl rfl (wrap64 (by omega) (by omega)) ?_
      refine RW.guardT rfl rfl rfl ?_
      refine RW.move rfl rfl ?_
      refine RW.guardT rfl rfl rfl ?_
      refine RW.lenS Tryd.underlying9 rfl rfl ?_
      refine RW.guardT rfl rfl rfl ?_
      refine RW.lss rfl rfl rfl ?_
      refine RW.pickB rfl rfl rfl rfl ?_
      refine RW.nil (EX.seq ?_)
      -- mq: cond
      first | refine CW.condD rfl (fun hlt => ?_) (fun hlt => ?_) | refine CW.cond rfl (fun hlt => ?_) (fun hlt => ?_)
      · skip
        obtain ⟨a, ha⟩ : ∃ a, r[2 * j]? = some a := ⟨r[2 * j]'(by omega), List.getElem?_eq_getElem _⟩
        obtain ⟨b, hb⟩ : ∃ b, r[2 * j + 1]? = some b := ⟨r[2 * j + 1]'(by omega), List.getElem?_eq_getElem _⟩
        have hsl : (r.take (2 * j + 2)).drop (2 * j) = [a, b] := by
          rw [List.drop_take, show 2 * j + 2 - 2 * j = 2 by omega, List.drop_eq_getElem_cons (by omega), (List.getElem?_eq_some_iff.1 ha).2, List.drop_eq_getElem_cons (by omega), (List.getElem?_eq_some_iff.1 hb).2]
          rfl
        refine CW.skip (EX.seq (CW.seq (CW.block (CW.seq ?_))))
        -- mq: region
        refine CW.region ?_
        refine RW.move rfl rfl ?_
        refine RW.move rfl rfl ?_
        refine RW.move rfl rfl ?_
        refine RW.add rfl rfl rfl (wrap64 (by omega) (by omega)) ?_
        refine RW.sliceStrLH (2 * j) (2 * j + 2) Tryd.underlying9 rfl rfl rfl rfl (by first | rfl | omega) (by first | rfl | omega) (by omega) (by first | omega | (simp; done) | (simp; omega)) ?_
        -- mq: op 5: ('Op.call', ('Call.mk', ('Callee.value', ('Operand.func', '56')), ('arr', ('Operand.tmp', '34'), ('Operand.const', ('Value.int', 'IntKind.i64', '16')), ('Operand.const', ('Value.int', 'IntKind.i64', '8'))), ('arr', '9', '3', '3'))) -> slot 35 ("dump.go:131")
        rw [hsl]
        refine RW.callA (R := fun _ v _ => IsPu2 a b v) rfl caPu rfl (fun w' hw' => pu16_c w' (hG.gl (by simpa [blk] using hw'.ext)).2 a b) (fun w1 w2 u hw1 he12 hw2 hlt2 hu => ?_)
        have hx12 := hw1.ext.trans0 he12
        have hcv := hw1.cov
        rcases hu with ⟨y, z, hy, hz, hpa, hpb, rfl⟩ | ⟨hno, q, t, p, rfl⟩
        · skip
          refine RW.move rfl rfl ?_
          refine RW.extract rfl rfl rfl ?_
          refine RW.extract rfl rfl rfl ?_
          refine RW.assign rfl rfl ?_
          refine RW.assign rfl rfl ?_
          refine RW.nil (EX.seq (CW.seq ?_))
          -- mq: region
          have hcz : (UInt8.ofNat (16 * y + z)).toNat = 16 * y + z := by rw [UInt8.toNat_ofNat']; omega
          refine CW.region ?_
          refine RW.move rfl rfl ?_
          refine RW.eqlNil (by kernel_rfl) rfl rfl ?_
          refine RW.assign rfl rfl ?_
          refine RW.nil (EX.seq ?_)
          -- mq: region
          refine CW.region ?_
          refine RW.move rfl rfl ?_
          refine RW.move rfl rfl ?_
          refine RW.convI (r := (((UInt8.ofNat (16 * y + z)).toNat : Nat) : Int)) rfl rfl Tryd.underlying22 Tryd.underlying5 (by rw [hcz, wrapN8 (by omega) (by omega)]) ?_
          refine RW.buildSlc sl53 rfl rfl rfl rfl (fun g43 hg43 hf43 => ?_)
          refine RW.append1 sl53 rfl rfl rfl (by first | exact Rem.head | exact Rem.tail Rem.head | exact Rem.tail (Rem.tail Rem.head) | exact Rem.tail (Rem.tail (Rem.tail Rem.head)) | exact Rem.tail (Rem.tail (Rem.tail (Rem.tail Rem.head))) | exact Rem.tail (Rem.tail (Rem.tail (Rem.tail (Rem.tail Rem.head)))) | exact Rem.tail (Rem.tail (Rem.tail (Rem.tail (Rem.tail (Rem.tail Rem.head)))))) (fun _ => by first | exact Upd.head | exact Upd.tail Upd.head | exact Upd.tail (Upd.tail Upd.head) | exact Upd.tail (Upd.tail (Upd.tail Upd.head)) | exact Upd.tail (Upd.tail (Upd.tail (Upd.tail Upd.head))) | exact Upd.tail (Upd.tail (Upd.tail (Upd.tail (Upd.tail Upd.head)))) | exact Upd.tail (Upd.tail (Upd.tail (Upd.tail (Upd.tail (Upd.tail Upd.head)))))) rfl (by repeat (first | exact Ones.nil | exact Enc.ones _ _ | refine Ones.cons rfl ?_)) (by simp only [maxLen]; omega) (by omega) (fun v44 hv44 => ?_)
          refine RW.assign rfl rfl ?_
          refine RW.nil (EX.bkN (EX.seq (CW.region ?_)))
          refine RW.move rfl rfl ?_
          refine RW.add rfl rfl rfl (wrap64 (by omega) (by omega)) ?_
          refine RW.assign rfl rfl ?_
          refine RW.nil ?_
          -- mq: loopend
          refine EX.lpN (j + 1, true, v44, O ++ [UInt8.ofNat (16 * y + z)]) ⟨by dsimp only; omega, by simp; omega, fun d hd => ?_⟩ (by dsimp only; omega) (by repeat (first | exact Sub.nil | refine Sub.cons (by rfl) ?_)) (fun w' hw' => ?_)
          · obtain ⟨_, h2⟩ := hsp d hd
            obtain ⟨c, hc, h3, h4⟩ := text_step (hspec d hd).2 ha hb
            refine ⟨rfl, ?_⟩
            have e1 := hpa _ h3
            have e2 := hpb _ h4
            rw [h2, List.take_add_one, hc, ← e1, ← e2, show 16 * (c.toNat / 16) + c.toNat % 16 = c.toNat by omega]
            simp
          · dsimp only
            rw [Enc.all_snoc EU8, List.length_append]
            exact hw'.unbase hx12 hcv
        · skip
          refine RW.move rfl rfl ?_
          refine RW.extract rfl rfl rfl ?_
          refine RW.extract rfl rfl rfl ?_
          refine RW.assign rfl rfl ?_
          refine RW.assign rfl rfl ?_
          refine RW.nil (EX.seq (CW.seq ?_))
          -- mq: region
          refine CW.region ?_
          refine RW.move rfl rfl ?_
          refine RW.eqlErr (by kernel_rfl) rfl rfl ?_
          refine RW.assign rfl rfl ?_
          refine RW.nil (EX.seq ?_)
          -- mq: region
          refine CW.region ?_
          refine RW.move rfl rfl ?_
          refine RW.move rfl rfl ?_
          refine RW.convI (r := (((UInt8.ofNat (IntKind.u8.wrap q).toNat).toNat : Nat) : Int)) rfl rfl Tryd.underlying22 Tryd.underlying5 (u8_of_int q) ?_
          refine RW.buildSlc sl53 rfl rfl rfl rfl (fun g43 hg43 hf43 => ?_)
          refine RW.append1 sl53 rfl rfl rfl (by first | exact Rem.head | exact Rem.tail Rem.head | exact Rem.tail (Rem.tail Rem.head) | exact Rem.tail (Rem.tail (Rem.tail Rem.head)) | exact Rem.tail (Rem.tail (Rem.tail (Rem.tail Rem.head))) | exact Rem.tail (Rem.tail (Rem.tail (Rem.tail (Rem.tail Rem.head)))) | exact Rem.tail (Rem.tail (Rem.tail (Rem.tail (Rem.tail (Rem.tail Rem.head)))))) (fun _ => by first | exact Upd.head | exact Upd.tail Upd.head | exact Upd.tail (Upd.tail Upd.head) | exact Upd.tail (Upd.tail (Upd.tail Upd.head)) | exact Upd.tail (Upd.tail (Upd.tail (Upd.tail Upd.head))) | exact Upd.tail (Upd.tail (Upd.tail (Upd.tail (Upd.tail Upd.head)))) | exact Upd.tail (Upd.tail (Upd.tail (Upd.tail (Upd.tail (Upd.tail Upd.head)))))) rfl (by repeat (first | exact Ones.nil | exact Enc.ones _ _ | refine Ones.cons rfl ?_)) (by simp only [maxLen]; omega) (by omega) (fun v44 hv44 => ?_)
          refine RW.assign rfl rfl ?_
          refine RW.nil (EX.bkN (EX.seq (CW.region ?_)))
          refine RW.move rfl rfl ?_
          refine RW.add rfl rfl rfl (wrap64 (by omega) (by omega)) ?_
          refine RW.assign rfl rfl ?_
          refine RW.nil ?_
          -- mq: loopend
          refine EX.lpN (j + 1, false, v44, O ++ [UInt8.ofNat (IntKind.u8.wrap q).toNat]) ⟨by dsimp only; omega, by simp; omega, fun d hd => ?_⟩ (by dsimp only; omega) (by repeat (first | exact Sub.nil | refine Sub.cons (by rfl) ?_)) (fun w' hw' => ?_)
          · obtain ⟨c, hc, h3, h4⟩ := text_step (hspec d hd).2 ha hb
            rw [h3, h4] at hno
            rcases hno with h | h <;> cases h
          · dsimp only
            rw [Enc.all_snoc EU8, List.length_append]
            exact hw'.unbase hx12 hcv
      · skip
        refine CW.formOwn (v := v) Has.head (fun A4 c4 hv4 hcap4 hmax4 hlen4 hg4 => ?_)
        subst hv4
        cases bad with
        | true =>
          refine CW.exit (EX.seqE (EX.lpE (EX.bkE (EX.seq (CW.seq ?_)))))
          -- mq: region
          refine CW.region ?_
          refine RW.move rfl rfl ?_
          refine RW.move rfl rfl ?_
          refine RW.nilChk rfl rfl ?_
          refine RW.fieldB fl68x1 rfl rfl ?_
          refine RW.loadB1 sc4 rfl rfl (by first | exact Has.head | exact Has.tail Has.head | exact Has.tail (Has.tail Has.head) | exact Has.tail (Has.tail (Has.tail Has.head)) | exact Has.tail (Has.tail (Has.tail (Has.tail Has.head))) | exact Has.tail (Has.tail (Has.tail (Has.tail (Has.tail Has.head)))) | exact Has.tail (Has.tail (Has.tail (Has.tail (Has.tail (Has.tail Has.head)))))) rfl ?_
          refine RW.move rfl rfl ?_
          refine RW.guardF rfl rfl rfl rfl ?_
          refine RW.guardF rfl rfl rfl rfl ?_
          refine RW.pickB rfl rfl rfl rfl ?_
          refine RW.move rfl rfl ?_
          refine RW.guardF rfl rfl rfl rfl ?_
          refine RW.guardF rfl rfl rfl rfl ?_
          refine RW.guardF rfl rfl rfl rfl ?_
          refine RW.guardF rfl rfl rfl rfl ?_
          refine RW.guardF rfl rfl rfl rfl ?_
          refine RW.pickB rfl rfl rfl rfl ?_
          refine RW.nilChk rfl rfl ?_
          refine RW.fieldB fl68x1 rfl rfl ?_
          refine RW.store1 sc4 rfl rfl (by first | exact Upd.head | exact Upd.tail Upd.head | exact Upd.tail (Upd.tail Upd.head) | exact Upd.tail (Upd.tail (Upd.tail Upd.head)) | exact Upd.tail (Upd.tail (Upd.tail (Upd.tail Upd.head))) | exact Upd.tail (Upd.tail (Upd.tail (Upd.tail (Upd.tail Upd.head)))) | exact Upd.tail (Upd.tail (Upd.tail (Upd.tail (Upd.tail (Upd.tail Upd.head)))))) rfl (by first | exact Nat.le_of_ble_eq_true rfl | simp) ?_
          refine RW.nil (EX.seq (CW.seq ?_))
          -- mq: region
          refine CW.region ?_
          refine RW.move rfl rfl ?_
          -- mq: at
          refine RW.bytesStr (s := O) (F := fun k => (Value.slice A4 O.length c4).ownBlock = some k) Tryd.underlying53 Tryd.underlying5 Tryd.underlying9 rfl rfl (fun w' hw' => ?_) ?_
          · obtain ⟨A6, c6, he6, hrd6⟩ := Rd.of_own (E := EU8) (hw'.has Has.head) rfl
            cases he6
            exact hrd6
          refine RW.assign rfl rfl ?_
          refine RW.nil (EX.seq (CW.ret ?_))
          refine EX.fin1 Tryd.results39 rfl (fun wz hw => ?_)
          -- mq: done
          exact RetU.of (O, true) (hfin _ (by rfl) (fun h => absurd h (by omega))) (hw.rem Rem.head)
        | false =>
          refine CW.exit (EX.seqE (EX.lpE (EX.bkE (EX.seq (CW.seq ?_)))))
          -- mq: region
          refine CW.region ?_
          refine RW.move rfl rfl ?_
          refine RW.move rfl rfl ?_
          refine RW.nilChk rfl rfl ?_
          refine RW.fieldB fl68x1 rfl rfl ?_
          refine RW.loadB1 sc4 rfl rfl (by first | exact Has.head | exact Has.tail Has.head | exact Has.tail (Has.tail Has.head) | exact Has.tail (Has.tail (Has.tail Has.head)) | exact Has.tail (Has.tail (Has.tail (Has.tail Has.head))) | exact Has.tail (Has.tail (Has.tail (Has.tail (Has.tail Has.head)))) | exact Has.tail (Has.tail (Has.tail (Has.tail (Has.tail (Has.tail Has.head)))))) rfl ?_
          refine RW.move rfl rfl ?_
          refine RW.guardT rfl rfl rfl ?_
          refine RW.move rfl rfl ?_
          refine RW.guardT rfl rfl rfl ?_
          refine RW.not_ rfl rfl ?_
          refine RW.pickC rfl rfl rfl rfl ?_
          refine RW.move rfl rfl ?_
          refine RW.guardT rfl rfl rfl ?_
          refine RW.move rfl rfl ?_
          refine RW.guardT rfl rfl rfl ?_
          -- mq: op 11: ('Op.convert', '53', '9', ('Operand.tmp', '55')) -> slot 56 ("dump.go:135")
          refine RW.bytesStr (s := O) (F := fun k => (Value.slice A4 O.length c4).ownBlock = some k) Tryd.underlying53 Tryd.underlying5 Tryd.underlying9 rfl rfl (fun w' hw' => ?_) ?_
          · obtain ⟨A6, c6, he6, hrd6⟩ := Rd.of_own (E := EU8) (hw'.has Has.head) rfl
            cases he6
            exact hrd6
          refine RW.guardT rfl rfl rfl ?_
          refine RW.call rfl ca30 rfl (fun w' _ => data_c w' O (by omega)) ?_
          refine RW.guardT rfl rfl rfl ?_
          refine RW.move rfl rfl ?_
          refine RW.guardT rfl rfl rfl ?_
          refine RW.neqS rfl rfl rfl ?_
          refine RW.pickC rfl rfl rfl rfl ?_
          refine RW.nilChk rfl rfl ?_
          refine RW.fieldB fl68x1 rfl rfl ?_
          refine RW.store1 sc4 rfl rfl (by first | exact Upd.head | exact Upd.tail Upd.head | exact Upd.tail (Upd.tail Upd.head) | exact Upd.tail (Upd.tail (Upd.tail Upd.head)) | exact Upd.tail (Upd.tail (Upd.tail (Upd.tail Upd.head))) | exact Upd.tail (Upd.tail (Upd.tail (Upd.tail (Upd.tail Upd.head)))) | exact Upd.tail (Upd.tail (Upd.tail (Upd.tail (Upd.tail (Upd.tail Upd.head)))))) rfl (by first | exact Nat.le_of_ble_eq_true rfl | simp) ?_
          refine RW.nil (EX.seq (CW.seq ?_))
          -- mq: region
          refine CW.region ?_
          refine RW.move rfl rfl ?_
          -- mq: at
          refine RW.bytesStr (s := O) (F := fun k => (Value.slice A4 O.length c4).ownBlock = some k) Tryd.underlying53 Tryd.underlying5 Tryd.underlying9 rfl rfl (fun w' hw' => ?_) ?_
          · obtain ⟨A6, c6, he6, hrd6⟩ := Rd.of_own (E := EU8) (hw'.has Has.head) rfl
            cases he6
            exact hrd6
          refine RW.assign rfl rfl ?_
          refine RW.nil (EX.seq (CW.ret ?_))
          refine EX.fin1 Tryd.results39 rfl (fun wz hw => ?_)
          -- mq: done
          exact RetU.of (O, decide (hexT O ≠ x)) (hfin _ (by rfl) (fun h => absurd h (by omega))) (hw.rem Rem.head)
    | false =>
      refine RW.guardF rfl rfl rfl rfl ?_
      refine RW.guardF rfl rfl rfl rfl ?_
      refine RW.guardF rfl rfl rfl rfl ?_
      refine RW.guardF rfl rfl rfl rfl ?_
      refine RW.guardF rfl rfl rfl rfl ?_
      refine RW.pickC rfl rfl rfl rfl ?_
      refine RW.nil (EX.seq ?_)
      -- mq: cond
      refine CW.condF rfl (rfl) ?_
      refine CW.formOwn (v := v) Has.head (fun A4 c4 hv4 hcap4 hmax4 hlen4 hg4 => ?_)
      subst hv4
      cases bad with
      | true =>
        refine CW.exit (EX.seqE (EX.lpE (EX.bkE (EX.seq (CW.seq ?_)))))
        -- mq: region
        refine CW.region ?_
        refine RW.move rfl rfl ?_
        refine RW.move rfl rfl ?_
        refine RW.nilChk rfl rfl ?_
        refine RW.fieldB fl68x1 rfl rfl ?_
        refine RW.loadB1 sc4 rfl rfl (by first | exact Has.head | exact Has.tail Has.head | exact Has.tail (Has.tail Has.head) | exact Has.tail (Has.tail (Has.tail Has.head)) | exact Has.tail (Has.tail (Has.tail (Has.tail Has.head))) | exact Has.tail (Has.tail (Has.tail (Has.tail (Has.tail Has.head)))) | exact Has.tail (Has.tail (Has.tail (Has.tail (Has.tail (Has.tail Has.head)))))) rfl ?_
        refine RW.move rfl rfl ?_
        refine RW.guardF rfl rfl rfl rfl ?_
        refine RW.guardF rfl rfl rfl rfl ?_
        refine RW.pickB rfl rfl rfl rfl ?_
        refine RW.move rfl rfl ?_
        refine RW.guardF rfl rfl rfl rfl ?_
        refine RW.guardF rfl rfl rfl rfl ?_
        refine RW.guardF rfl rfl rfl rfl ?_
        refine RW.guardF rfl rfl rfl rfl ?_
        refine RW.guardF rfl rfl rfl rfl ?_
        refine RW.pickB rfl rfl rfl rfl ?_
        refine RW.nilChk rfl rfl ?_
        refine RW.fieldB fl68x1 rfl rfl ?_
        refine RW.store1 sc4 rfl rfl (by first | exact Upd.head | exact Upd.tail Upd.head | exact Upd.tail (Upd.tail Upd.head) | exact Upd.tail (Upd.tail (Upd.tail Upd.head)) | exact Upd.tail (Upd.tail (Upd.tail (Upd.tail Upd.head))) | exact Upd.tail (Upd.tail (Upd.tail (Upd.tail (Upd.tail Upd.head)))) | exact Upd.tail (Upd.tail (Upd.tail (Upd.tail (Upd.tail (Upd.tail Upd.head)))))) rfl (by first | exact Nat.le_of_ble_eq_true rfl | simp) ?_
        refine RW.nil (EX.seq (CW.seq ?_))
        -- mq: region
        refine CW.region ?_
        refine RW.move rfl rfl ?_
        -- mq: at
        refine RW.bytesStr (s := O) (F := fun k => (Value.slice A4 O.length c4).ownBlock = some k) Tryd.underlying53 Tryd.underlying5 Tryd.underlying9 rfl rfl (fun w' hw' => ?_) ?_
        · obtain ⟨A6, c6, he6, hrd6⟩ := Rd.of_own (E := EU8) (hw'.has Has.head) rfl
          cases he6
          exact hrd6
        refine RW.assign rfl rfl ?_
        refine RW.nil (EX.seq (CW.ret ?_))
        refine EX.fin1 Tryd.results39 rfl (fun wz hw => ?_)
        -- mq: done
        exact RetU.of (O, true) (hfin _ (by rfl) (fun _ => rfl)) (hw.rem Rem.head)
      | false =>
        refine CW.exit (EX.seqE (EX.lpE (EX.bkE (EX.seq (CW.seq ?_)))))
        -- mq: region
        refine CW.region ?_
        refine RW.move rfl rfl ?_
        refine RW.move rfl rfl ?_
        refine RW.nilChk rfl rfl ?_
        refine RW.fieldB fl68x1 rfl rfl ?_
        refine RW.loadB1 sc4 rfl rfl (by first | exact Has.head | exact Has.tail Has.head | exact Has.tail (Has.tail Has.head) | exact Has.tail (Has.tail (Has.tail Has.head)) | exact Has.tail (Has.tail (Has.tail (Has.tail Has.head))) | exact Has.tail (Has.tail (Has.tail (Has.tail (Has.tail Has.head)))) | exact Has.tail (Has.tail (Has.tail (Has.tail (Has.tail (Has.tail Has.head)))))) rfl ?_
        refine RW.move rfl rfl ?_
        refine RW.guardT rfl rfl rfl ?_
        refine RW.move rfl rfl ?_
        refine RW.guardT rfl rfl rfl ?_
        refine RW.not_ rfl rfl ?_
        refine RW.pickC rfl rfl rfl rfl ?_
        refine RW.move rfl rfl ?_
        refine RW.guardF rfl rfl rfl rfl ?_
        refine RW.guardF rfl rfl rfl rfl ?_
        refine RW.guardF rfl rfl rfl rfl ?_
        refine RW.guardF rfl rfl rfl rfl ?_
        refine RW.guardF rfl rfl rfl rfl ?_
        refine RW.pickB rfl rfl rfl rfl ?_
        refine RW.nilChk rfl rfl ?_
        refine RW.fieldB fl68x1 rfl rfl ?_
        refine RW.store1 sc4 rfl rfl (by first | exact Upd.head | exact Upd.tail Upd.head | exact Upd.tail (Upd.tail Upd.head) | exact Upd.tail (Upd.tail (Upd.tail Upd.head)) | exact Upd.tail (Upd.tail (Upd.tail (Upd.tail Upd.head))) | exact Upd.tail (Upd.tail (Upd.tail (Upd.tail (Upd.tail Upd.head)))) | exact Upd.tail (Upd.tail (Upd.tail (Upd.tail (Upd.tail (Upd.tail Upd.head)))))) rfl (by first | exact Nat.le_of_ble_eq_true rfl | simp) ?_
        refine RW.nil (EX.seq (CW.seq ?_))
        -- mq: region
        refine CW.region ?_
        refine RW.move rfl rfl ?_
        -- mq: at
        refine RW.bytesStr (s := O) (F := fun k => (Value.slice A4 O.length c4).ownBlock = some k) Tryd.underlying53 Tryd.underlying5 Tryd.underlying9 rfl rfl (fun w' hw' => ?_) ?_
        · obtain ⟨A6, c6, he6, hrd6⟩ := Rd.of_own (E := EU8) (hw'.has Has.head) rfl
          cases he6
          exact hrd6
        refine RW.assign rfl rfl ?_
        refine RW.nil (EX.seq (CW.ret ?_))
        refine EX.fin1 Tryd.results39 rfl (fun wz hw => ?_)
        -- mq: done
        exact RetU.of (O, true) (hfin _ (by rfl) (fun _ => rfl)) (hw.rem Rem.head)
end Go.Proofs.YtnkdabjahmjdoaaDoor.Mq
