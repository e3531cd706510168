/- osc: ParseUint of two bytes at base 16 into 8 bits (printed by gen_pu.py) -/
import Derived.Test.YtemcblinkicblaaDoorPct
import Derived.Shelf.Pu.ToError
import Derived.Test.YtemcblinkicblaaDoorByt
import Derived.Test.YtemcblinkicblaaDoorAto
namespace Go.Proofs.YtemcblinkicblaaDoor.Mq
open Go Go.RowKit Go.Proofs

section
variable {P : Program} {n : Nat} {ops : Array Oper} {Q : Post} {rest : List Oper} {l : Fr} {H : World → Prop} {d : Nat} {ty : TypeId} {pos : String} {af : Array Edge} {x : Operand}
theorem RW.mkI {t : TypeId} {v : Value} (ht : P.concrete t = true) (hd : Nat.blt d n = true) (hx : ev l x = some v) (h : RW P n ops Q rest ((d, .iface t v) :: l) H) :
    RW P n ops Q (⟨some d, .makeInterface t x, ty, pos, af, none⟩ :: rest) l H :=
  RW.val _ hd (fun ρ w hρ => by
    have e := run_makeInterface (P := P) w t v ht
    simp [execOp, hρ x _ hx, e]) h
end
theorem caLow : CaT Tryd.prog 80 := CaT.of Tryd.func80 (by kernel_rfl) (by kernel_rfl)
theorem low_c (w : World) (c : UInt8) : Calls Tryd.prog 80 [.int .u8 (c.toNat : Int)].toArray w (fun e w' => e = .returned (.int .u8 ((c.toNat ||| 32 : Nat) : Int)) ∧ Ext [] w w') := by
  have hc := UInt8.toNat_lt c
  have hb : c.toNat ||| 32 < 2 ^ 8 := Nat.or_lt_two_pow hc (by decide)
  refine calls (n := 5) Tryd.func80 rfl Tryd.ntmps80 rfl ?_
  refine CW.sub (H' := SH w [] []) ?_ (Sub.refl _) (fun x hx => SH.start' _ _ hx)
  refine CW.seq (CW.region ?_)
  refine RW.assign rfl rfl ?_
  refine RW.nil (EX.seq (CW.seq (CW.region ?_)))
  refine RW.move rfl rfl ?_
  refine RW.or_ (r := ((c.toNat ||| 32 : Nat) : Int)) rfl rfl rfl (or_eq (m := c.toNat) (n := 32) rfl rfl (by simp only [IntKind.bits]; omega) (by decide) (wrapN8 (by omega) (by omega))) ?_
  refine RW.assign rfl rfl ?_
  refine RW.nil (EX.seq (CW.ret ?_))
  refine EX.fin1 Tryd.results80 rfl (fun wz hw => ?_)
  -- mq: done
  exact ⟨rfl, hw.ext⟩
theorem low_key : ∀ c : UInt8, ¬ (48 ≤ c.toNat ∧ c.toNat ≤ 57) → ((97 ≤ (c.toNat ||| 32) ∧ (c.toNat ||| 32) ≤ 122) ∧ (c.toNat ||| 32) - 87 < 16 → hexI c = (((c.toNat ||| 32) - 87 : Nat) : Int)) ∧ (¬ (97 ≤ (c.toNat ||| 32) ∧ (c.toNat ||| 32) ≤ 122) ∨ 16 ≤ (c.toNat ||| 32) - 87 → hexI c = -1) := by
  refine all_bytes ?_
  decide +kernel
def okD (c : UInt8) (y : Nat) : Prop := y < 16 ∧ hexI c = (y : Int)
theorem hexV_low {c : UInt8} (h2 : ¬ (48 ≤ c.toNat ∧ c.toNat ≤ 57)) (h : ¬ (97 ≤ (c.toNat ||| 32) ∧ (c.toNat ||| 32) ≤ 122) ∨ 16 ≤ (c.toNat ||| 32) - 87) : hexI c = -1 := (low_key c h2).2 h
theorem okD_dig {c : UInt8} (h : 48 ≤ c.toNat ∧ c.toNat ≤ 57) : okD c (c.toNat - 48) := by
  refine ⟨by omega, ?_⟩
  have e1 : (48 : UInt8).toNat = 48 := rfl
  have e2 : (57 : UInt8).toNat = 57 := rfl
  unfold hexI betw
  rw [if_pos (by rw [e1, e2, decide_eq_true h.1, decide_eq_true h.2]; rfl)]
  omega
theorem okD_low {c : UInt8} (h2 : ¬ (48 ≤ c.toNat ∧ c.toNat ≤ 57)) (h1 : 97 ≤ (c.toNat ||| 32) ∧ (c.toNat ||| 32) ≤ 122) (h : (c.toNat ||| 32) - 87 < 16) : okD c ((c.toNat ||| 32) - 87) := ⟨h, (low_key c h2).1 ⟨h1, h⟩⟩
theorem byt_u8' {b : World} {S : List Nat} {cs : List Chunk} {w : World} (h : SH b S cs w) {g e : Nat} {L : List UInt8} (hc : Has cs (byt g e (EU8.all L))) {k : Nat} {a : UInt8} (hk : L[k]? = some a) : w.cell? ((⟨g, 0, none⟩ : Addr).add (k * 1)) = some (.int .u8 (a.toNat : Int)) := by
  rw [Addr.add_lit, Nat.zero_add]
  exact h.byt_cell hc (EU8.all_get (j := 0) hk rfl)
def IsPu (a b : UInt8) (v : Value) : Prop :=
  (∃ y z : Nat, y < 16 ∧ z < 16 ∧ hexI a = (y : Int) ∧ hexI b = (z : Int) ∧ v = .tuple #[.int .u64 ((16 * y + z : Nat) : Int), .nilIface]) ∨
  ((hexI a = -1 ∨ hexI b = -1) ∧ v = .tuple #[.int .u64 0, .iface 77 (.int .i64 2)])
def stP (a b : UInt8) (i u : Nat) : Prop := (i = 0 ∧ u = 0) ∨ (i = 1 ∧ okD a u) ∨ (i = 2 ∧ ∃ y z, okD a y ∧ okD b z ∧ u = 16 * y + z)
theorem inPu_c (w : World) (a b : UInt8) : Calls Tryd.prog 68 [.string (bs [a, b]), .int .i64 16, .int .i64 8].toArray w (RetA (fun v _ => IsPu a b v) w) := by
  have ha8 := UInt8.toNat_lt a
  have hb8 := UInt8.toNat_lt b
  refine calls (n := 172) Tryd.func68 rfl Tryd.ntmps68 rfl ?_
  refine CW.sub (H' := SH w [] []) ?_ (Sub.refl _) (fun x hx => SH.start' _ _ hx)
  refine CW.seq (CW.region ?_)
  refine RW.assign rfl rfl ?_
  refine RW.assign rfl rfl ?_
  refine RW.nil (EX.seq (CW.seq (CW.seq ?_)))
  -- mq: region
  refine CW.region ?_
  refine RW.move rfl rfl ?_
  refine RW.eqlS rfl rfl rfl ?_
  refine RW.nil (EX.seq ?_)
  -- mq: cond
  refine CW.condF rfl ((decide_eq_false (by simp))) ?_
  refine CW.skip (EX.seq (CW.seq (CW.region ?_)))
  refine RW.move rfl rfl ?_
  refine RW.eqlI rfl rfl rfl ?_
  refine RW.assign rfl rfl ?_
  refine RW.nil (EX.seq (CW.seq (CW.region ?_)))
  refine RW.move rfl rfl ?_
  refine RW.assign rfl rfl ?_
  refine RW.nil (EX.seq (CW.seq (CW.block (CW.seq (CW.region ?_)))))
  refine RW.move rfl rfl ?_
  refine RW.leq rfl rfl rfl ?_
  refine RW.move rfl rfl ?_
  refine RW.guardT rfl rfl rfl ?_
  refine RW.move rfl rfl ?_
  refine RW.guardT rfl rfl rfl ?_
  refine RW.leq rfl rfl rfl ?_
  refine RW.pickB rfl rfl rfl rfl ?_
  refine RW.assign rfl rfl ?_
  refine RW.nil (EX.seq ?_)
  -- mq: cond
  refine CW.condT rfl (rfl) ?_
  refine CW.skip (EX.bkN (EX.seq (CW.seq (CW.seq (CW.region ?_)))))
  refine RW.move rfl rfl ?_
  refine RW.eqlI rfl rfl rfl ?_
  refine RW.nil (EX.seq ?_)
  -- mq: cond
  refine CW.condF rfl (rfl) ?_
  refine CW.seq (CW.region ?_)
  refine RW.move rfl rfl ?_
  refine RW.lss rfl rfl rfl ?_
  refine RW.move rfl rfl ?_
  refine RW.guardT rfl rfl rfl ?_
  refine RW.move rfl rfl ?_
  refine RW.guardT rfl rfl rfl ?_
  refine RW.gtr rfl rfl rfl ?_
  refine RW.pickC rfl rfl rfl rfl ?_
  refine RW.nil (EX.seq ?_)
  -- mq: cond
  refine CW.condF rfl (rfl) ?_
  refine CW.skip (EX.seq (CW.seq (CW.region ?_)))
  refine RW.assign rfl rfl ?_
  refine RW.nil (EX.seq (CW.seq (CW.seq (CW.region ?_))))
  refine RW.move rfl rfl ?_
  refine RW.nil (EX.seq (CW.block (CW.seq (CW.region ?_))))
  refine RW.eqlI rfl rfl rfl ?_
  refine RW.assign rfl rfl ?_
  refine RW.nil (EX.seq ?_)
  -- mq: cond
  refine CW.condF rfl (rfl) ?_
  refine CW.seq (CW.region ?_)
  refine RW.eqlI rfl rfl rfl ?_
  refine RW.assign rfl rfl ?_
  refine RW.nil (EX.seq ?_)
  -- mq: cond
  refine CW.condT rfl (rfl) ?_
  refine CW.region ?_
  refine RW.assign rfl rfl ?_
  refine RW.nil (EX.bkN (EX.seq (CW.seq (CW.region ?_))))
  refine RW.move rfl rfl ?_
  refine RW.convI (r := 8) rfl rfl Tryd.underlying3 Tryd.underlying57 rfl ?_
  refine RW.shlN (r := 256) rfl rfl rfl (by decide) rfl ?_
  refine RW.sub_ (r := 255) rfl rfl rfl rfl ?_
  refine RW.assign rfl rfl ?_
  refine RW.nil (EX.seq (CW.seq (CW.region ?_)))
  refine RW.assign rfl rfl ?_
  refine RW.nil (EX.seq (CW.seq (CW.region ?_)))
  refine RW.assign rfl rfl ?_
  refine RW.nil (EX.seq (CW.seq (CW.seq ?_)))
  -- mq: region
  refine CW.region ?_
  refine RW.move rfl rfl ?_
  -- mq: at
  refine RW.strBytes (s := [a, b]) Tryd.underlying9 Tryd.underlying56 Tryd.underlying5 rfl rfl (by show 2 ≤ 1000000; decide) (fun gb cb hgb hfb hcb1 hcb2 => ?_)
  refine RW.lenSl Tryd.underlying56 rfl rfl ?_
  refine RW.move rfl rfl ?_
  refine RW.nil (EX.seq (CW.block ?_))
  -- mq: loop
  refine CW.loop (ι := Nat × Nat) (fun t => [(1, .int .i64 16), (8, .bool false), (10, .int .u64 1152921504606846976), (11, .int .u64 255), (12, .bool false), (13, .int .u64 (t.2 : Int)), (99, .slice (some ⟨gb, 0, none⟩) 2 cb), (100, .int .i64 2), (101, .int .i64 (t.1 : Int))]) (fun _ => SH w [] [byt gb 5 (EU8.all [a, b])]) (fun t => stP a b t.1 t.2) (fun t => 2 - t.1) ?_ ?_
  · exact fun w' hw' => ⟨(0, 0), .inl ⟨rfl, rfl⟩, (by repeat (first | exact Sub.nil | refine Sub.cons (by rfl) ?_)), hw'⟩
  · rintro ⟨i, u⟩ hst
    dsimp only at hst ⊢
    rcases hst with ⟨rfl, rfl⟩ | ⟨rfl, hu⟩ | ⟨rfl, y, z, hy, hz, rfl⟩
    · skip
      have hl8 : a.toNat ||| 32 < 256 := Nat.or_lt_two_pow (n := 8) (by omega) (by decide)
      refine CW.seq (CW.region ?_)
      refine RW.lss rfl rfl rfl ?_
      refine RW.nil (EX.seq (CW.seq ?_))
      -- mq: cond
      refine CW.condT rfl ((decide_eq_true (by omega))) ?_
      refine CW.skip (EX.seq (CW.seq (CW.block (CW.seq (CW.region ?_)))))
      refine RW.ixAddr (q := 0) sl56 rfl rfl rfl (by first | rfl | assumption) (by omega) (by omega) ?_
      refine RW.load1 sc5 rfl rfl (fun w' hw' => byt_u8' hw' Has.head (k := 0) (a := a) rfl) ?_
      refine RW.assign rfl rfl ?_
      refine RW.nil (EX.seq (CW.seq (CW.region ?_)))
      refine RW.assign rfl rfl ?_
      refine RW.nil (EX.seq (CW.seq (CW.block (CW.seq ?_))))
      -- mq: region
      refine CW.join ([(1, .int .i64 16), (8, .bool false), (10, .int .u64 1152921504606846976), (11, .int .u64 255), (12, .bool false), (13, .int .u64 ((0 : Nat) : Int)), (99, .slice (some ⟨gb, 0, none⟩) 2 cb), (100, .int .i64 2), (101, .int .i64 ((0 : Nat) : Int)), (15, .int .u8 (a.toNat : Int)), (106, .bool false)]) (SH w [] [byt gb 5 (EU8.all [a, b])]) ?_ ?_
      · skip
        refine CW.region ?_
        refine RW.move rfl rfl ?_
        refine RW.eqlI rfl rfl rfl ?_
        refine RW.move rfl rfl ?_
        -- mq: guard slot 109
        refine RW.casesB 109 rfl (fun h1 => ?_) (fun h1 => ?_)
        · skip
          have h1p := of_decide_eq_true h1
          refine RW.guardT rfl rfl h1 ?_
          refine RW.move rfl rfl ?_
          refine RW.pickB rfl rfl h1 rfl ?_
          refine RW.assign rfl rfl ?_
          refine RW.nil ?_
          -- mq: joinend
          exact EX.jn (by repeat (first | exact Sub.nil | refine Sub.cons (by rfl) ?_)) (fun _ h => h)
        · skip
          have h1p := of_decide_eq_false h1
          refine RW.guardF rfl rfl rfl h1 ?_
          refine RW.pickC rfl rfl h1 rfl ?_
          refine RW.assign rfl rfl ?_
          refine RW.nil ?_
          -- mq: joinend
          exact EX.jn (by repeat (first | exact Sub.nil | refine Sub.cons (by rfl) ?_)) (fun _ h => h)
      · skip
        refine EX.seq ?_
        -- mq: cond
        refine CW.condF rfl (rfl) ?_
        refine CW.seq (CW.region ?_)
        refine RW.move rfl rfl ?_
        refine RW.leq rfl rfl rfl ?_
        refine RW.move rfl rfl ?_
        -- mq: guard slot 115
        refine RW.casesB 115 rfl (fun h2 => ?_) (fun h2 => ?_)
        · skip
          have h2p := of_decide_eq_true h2
          refine RW.guardT rfl rfl h2 ?_
          refine RW.move rfl rfl ?_
          refine RW.guardT rfl rfl h2 ?_
          refine RW.leq rfl rfl rfl ?_
          refine RW.pickB rfl rfl h2 rfl ?_
          refine RW.assign rfl rfl ?_
          refine RW.nil (EX.seq ?_)
          -- mq: cond
          first | refine CW.condD rfl (fun h3 => ?_) (fun h3 => ?_) | refine CW.cond rfl (fun h3 => ?_) (fun h3 => ?_)
          · skip
            refine CW.region ?_
            refine RW.move rfl rfl ?_
            refine RW.sub_ (r := ((a.toNat - 48 : Nat) : Int)) rfl rfl rfl (by rw [IntKind.wrap_u8]; omega) ?_
            refine RW.assign rfl rfl ?_
            refine RW.nil (EX.bkN (EX.seq (CW.seq (CW.seq ?_))))
            -- mq: region
            refine CW.region ?_
            refine RW.move rfl rfl ?_
            refine RW.move rfl rfl ?_
            refine RW.convI (r := 16) rfl rfl Tryd.underlying3 Tryd.underlying5 rfl ?_
            refine RW.geq rfl rfl rfl ?_
            refine RW.nil (EX.seq ?_)
            -- mq: cond
            refine CW.condF rfl ((decide_eq_false (by omega))) ?_
            refine CW.skip (EX.seq (CW.seq (CW.seq (CW.region ?_))))
            refine RW.move rfl rfl ?_
            refine RW.move rfl rfl ?_
            refine RW.geq rfl rfl rfl ?_
            refine RW.nil (EX.seq ?_)
            -- mq: cond
            refine CW.condF rfl ((decide_eq_false (by omega))) ?_
            refine CW.skip (EX.seq (CW.seq (CW.region ?_)))
            refine RW.move rfl rfl ?_
            refine RW.move rfl rfl ?_
            refine RW.convI (r := 16) rfl rfl Tryd.underlying3 Tryd.underlying70 rfl ?_
            refine RW.mul (r := (((0 : Nat) * 16 : Nat) : Int)) rfl rfl rfl (by rw [IntKind.wrap_u64]; omega) ?_
            refine RW.assign rfl rfl ?_
            refine RW.nil (EX.seq (CW.seq ?_))
            -- mq: region
            refine CW.region ?_
            refine RW.move rfl rfl ?_
            refine RW.move rfl rfl ?_
            refine RW.convI (r := ((a.toNat - 48 : Nat) : Int)) rfl rfl Tryd.underlying5 Tryd.underlying70 (by rw [IntKind.wrap_u64]; omega) ?_
            refine RW.add (r := (((0 : Nat) * 16 + (a.toNat - 48) : Nat) : Int)) rfl rfl rfl (by rw [IntKind.wrap_u64]; omega) ?_
            refine RW.assign rfl rfl ?_
            refine RW.nil (EX.seq (CW.seq (CW.seq (CW.region ?_))))
            refine RW.move rfl rfl ?_
            refine RW.move rfl rfl ?_
            refine RW.lss rfl rfl rfl ?_
            refine RW.move rfl rfl ?_
            -- mq: guard slot 155
            refine RW.guardT rfl rfl (decide_eq_false (by omega)) ?_
            refine RW.move rfl rfl ?_
            refine RW.guardT rfl rfl (decide_eq_false (by omega)) ?_
            refine RW.move rfl rfl ?_
            refine RW.guardT rfl rfl (decide_eq_false (by omega)) ?_
            refine RW.gtr rfl rfl rfl ?_
            refine RW.pickC rfl rfl (decide_eq_false (by omega)) rfl ?_
            refine RW.nil (EX.seq ?_)
            -- mq: cond
            refine CW.condF rfl ((decide_eq_false (by omega))) ?_
            refine CW.skip (EX.seq (CW.region ?_))
            refine RW.move rfl rfl ?_
            refine RW.assign rfl rfl ?_
            refine RW.nil (EX.bkN (EX.seq (CW.region ?_)))
            refine RW.add rfl rfl rfl (wrap64 (by omega) (by omega)) ?_
            refine RW.move rfl rfl ?_
            refine RW.nil ?_
            -- mq: loopend
            exact EX.lpN (1, 0 * 16 + (a.toNat - 48)) (.inr (.inl ⟨rfl, by rw [Nat.zero_mul, Nat.zero_add]; exact (okD_dig (by omega))⟩)) (by dsimp only; omega) (by repeat (first | exact Sub.nil | refine Sub.cons (by rfl) ?_)) (fun w' hw' => hw')
          · skip
            refine CW.seq (CW.region ?_)
            refine RW.move rfl rfl ?_
            refine RW.call rfl caLow rfl (fun w' _ => low_c w' a) ?_
            refine RW.leq rfl rfl rfl ?_
            refine RW.move rfl rfl ?_
            -- mq: guard slot 125
            refine RW.casesB 125 rfl (fun h4 => ?_) (fun h4 => ?_)
            · skip
              have h4p := of_decide_eq_true h4
              refine RW.guardT rfl rfl h4 ?_
              refine RW.move rfl rfl ?_
              refine RW.guardT rfl rfl h4 ?_
              refine RW.call rfl caLow rfl (fun w' _ => low_c w' a) ?_
              refine RW.guardT rfl rfl h4 ?_
              refine RW.leq rfl rfl rfl ?_
              refine RW.pickB rfl rfl h4 rfl ?_
              refine RW.assign rfl rfl ?_
              refine RW.nil (EX.seq ?_)
              -- mq: cond
              first | refine CW.condD rfl (fun h5 => ?_) (fun h5 => ?_) | refine CW.cond rfl (fun h5 => ?_) (fun h5 => ?_)
              · skip
                refine CW.region ?_
                refine RW.move rfl rfl ?_
                refine RW.call rfl caLow rfl (fun w' _ => low_c w' a) ?_
                refine RW.sub_ (r := (((a.toNat ||| 32) - 97 : Nat) : Int)) rfl rfl rfl (by rw [IntKind.wrap_u8]; omega) ?_
                refine RW.add (r := (((a.toNat ||| 32) - 87 : Nat) : Int)) rfl rfl rfl (by rw [IntKind.wrap_u8]; omega) ?_
                refine RW.assign rfl rfl ?_
                refine RW.nil (EX.bkN (EX.seq (CW.seq (CW.seq ?_))))
                -- mq: region
                refine CW.region ?_
                refine RW.move rfl rfl ?_
                refine RW.move rfl rfl ?_
                refine RW.convI (r := 16) rfl rfl Tryd.underlying3 Tryd.underlying5 rfl ?_
                refine RW.geq rfl rfl rfl ?_
                refine RW.nil (EX.seq ?_)
                -- mq: cond
                first | refine CW.condD rfl (fun h7 => ?_) (fun h7 => ?_) | refine CW.cond rfl (fun h7 => ?_) (fun h7 => ?_)
                · skip
                  refine CW.seq (CW.region ?_)
                  refine RW.mkI (by kernel_rfl) rfl rfl ?_
                  refine RW.assign rfl rfl ?_
                  refine RW.assign rfl rfl ?_
                  refine RW.nil (EX.seq (CW.ret (EX.seqR (EX.bkR (EX.seqR (EX.lpR (EX.bkR (EX.seqR ?_))))))))
                  refine EX.fin2 Tryd.results68 rfl rfl (fun wz hw => ?_)
                  -- mq: done
                  exact ⟨_, rfl, hw.ext, .inr ⟨.inl (hexV_low (by omega) (.inr (by omega))), rfl⟩⟩
                · skip
                  refine CW.skip (EX.seq (CW.seq (CW.seq (CW.region ?_))))
                  refine RW.move rfl rfl ?_
                  refine RW.move rfl rfl ?_
                  refine RW.geq rfl rfl rfl ?_
                  refine RW.nil (EX.seq ?_)
                  -- mq: cond
                  refine CW.condF rfl ((decide_eq_false (by omega))) ?_
                  refine CW.skip (EX.seq (CW.seq (CW.region ?_)))
                  refine RW.move rfl rfl ?_
                  refine RW.move rfl rfl ?_
                  refine RW.convI (r := 16) rfl rfl Tryd.underlying3 Tryd.underlying70 rfl ?_
                  refine RW.mul (r := (((0 : Nat) * 16 : Nat) : Int)) rfl rfl rfl (by rw [IntKind.wrap_u64]; omega) ?_
                  refine RW.assign rfl rfl ?_
                  refine RW.nil (EX.seq (CW.seq ?_))
                  -- mq: region
                  refine CW.region ?_
                  refine RW.move rfl rfl ?_
                  refine RW.move rfl rfl ?_
                  refine RW.convI (r := (((a.toNat ||| 32) - 87 : Nat) : Int)) rfl rfl Tryd.underlying5 Tryd.underlying70 (by rw [IntKind.wrap_u64]; omega) ?_
                  refine RW.add (r := (((0 : Nat) * 16 + ((a.toNat ||| 32) - 87) : Nat) : Int)) rfl rfl rfl (by rw [IntKind.wrap_u64]; omega) ?_
                  refine RW.assign rfl rfl ?_
                  refine RW.nil (EX.seq (CW.seq (CW.seq (CW.region ?_))))
                  refine RW.move rfl rfl ?_
                  refine RW.move rfl rfl ?_
                  refine RW.lss rfl rfl rfl ?_
                  refine RW.move rfl rfl ?_
                  -- mq: guard slot 155
                  refine RW.guardT rfl rfl (decide_eq_false (by omega)) ?_
                  refine RW.move rfl rfl ?_
                  refine RW.guardT rfl rfl (decide_eq_false (by omega)) ?_
                  refine RW.move rfl rfl ?_
                  refine RW.guardT rfl rfl (decide_eq_false (by omega)) ?_
                  refine RW.gtr rfl rfl rfl ?_
                  refine RW.pickC rfl rfl (decide_eq_false (by omega)) rfl ?_
                  refine RW.nil (EX.seq ?_)
                  -- mq: cond
                  refine CW.condF rfl ((decide_eq_false (by omega))) ?_
                  refine CW.skip (EX.seq (CW.region ?_))
                  refine RW.move rfl rfl ?_
                  refine RW.assign rfl rfl ?_
                  refine RW.nil (EX.bkN (EX.seq (CW.region ?_)))
                  refine RW.add rfl rfl rfl (wrap64 (by omega) (by omega)) ?_
                  refine RW.move rfl rfl ?_
                  refine RW.nil ?_
                  -- mq: loopend
                  exact EX.lpN (1, 0 * 16 + ((a.toNat ||| 32) - 87)) (.inr (.inl ⟨rfl, by rw [Nat.zero_mul, Nat.zero_add]; exact (okD_low (by omega) (by omega) (by omega))⟩)) (by dsimp only; omega) (by repeat (first | exact Sub.nil | refine Sub.cons (by rfl) ?_)) (fun w' hw' => hw')
              · skip
                refine CW.seq (CW.region ?_)
                refine RW.mkI (by kernel_rfl) rfl rfl ?_
                refine RW.assign rfl rfl ?_
                refine RW.assign rfl rfl ?_
                refine RW.nil (EX.seq (CW.ret (EX.bkR (EX.seqR (EX.bkR (EX.seqR (EX.lpR (EX.bkR (EX.seqR ?_)))))))))
                refine EX.fin2 Tryd.results68 rfl rfl (fun wz hw => ?_)
                -- mq: done
                exact ⟨_, rfl, hw.ext, .inr ⟨.inl (hexV_low (by omega) (.inl (by omega))), rfl⟩⟩
            · skip
              have h4p := of_decide_eq_false h4
              refine RW.guardF rfl rfl rfl h4 ?_
              refine RW.guardF rfl rfl rfl h4 ?_
              refine RW.guardF rfl rfl rfl h4 ?_
              refine RW.pickC rfl rfl h4 rfl ?_
              refine RW.assign rfl rfl ?_
              refine RW.nil (EX.seq ?_)
              -- mq: cond
              refine CW.condF rfl (rfl) ?_
              refine CW.seq (CW.region ?_)
              refine RW.mkI (by kernel_rfl) rfl rfl ?_
              refine RW.assign rfl rfl ?_
              refine RW.assign rfl rfl ?_
              refine RW.nil (EX.seq (CW.ret (EX.bkR (EX.seqR (EX.bkR (EX.seqR (EX.lpR (EX.bkR (EX.seqR ?_)))))))))
              refine EX.fin2 Tryd.results68 rfl rfl (fun wz hw => ?_)
              -- mq: done
              exact ⟨_, rfl, hw.ext, .inr ⟨.inl (hexV_low (by omega) (.inl (by omega))), rfl⟩⟩
        · skip
          have h2p := of_decide_eq_false h2
          refine RW.guardF rfl rfl rfl h2 ?_
          refine RW.guardF rfl rfl rfl h2 ?_
          refine RW.pickC rfl rfl h2 rfl ?_
          refine RW.assign rfl rfl ?_
          refine RW.nil (EX.seq ?_)
          -- mq: cond
          refine CW.condF rfl (rfl) ?_
          refine CW.seq (CW.region ?_)
          refine RW.move rfl rfl ?_
          refine RW.call rfl caLow rfl (fun w' _ => low_c w' a) ?_
          refine RW.leq rfl rfl rfl ?_
          refine RW.move rfl rfl ?_
          -- mq: guard slot 125
          refine RW.casesB 125 rfl (fun h4 => ?_) (fun h4 => ?_)
          · skip
            have h4p := of_decide_eq_true h4
            refine RW.guardT rfl rfl h4 ?_
            refine RW.move rfl rfl ?_
            refine RW.guardT rfl rfl h4 ?_
            refine RW.call rfl caLow rfl (fun w' _ => low_c w' a) ?_
            refine RW.guardT rfl rfl h4 ?_
            refine RW.leq rfl rfl rfl ?_
            refine RW.pickB rfl rfl h4 rfl ?_
            refine RW.assign rfl rfl ?_
            refine RW.nil (EX.seq ?_)
            -- mq: cond
            first | refine CW.condD rfl (fun h5 => ?_) (fun h5 => ?_) | refine CW.cond rfl (fun h5 => ?_) (fun h5 => ?_)
            · skip
              refine CW.region ?_
              refine RW.move rfl rfl ?_
              refine RW.call rfl caLow rfl (fun w' _ => low_c w' a) ?_
              refine RW.sub_ (r := (((a.toNat ||| 32) - 97 : Nat) : Int)) rfl rfl rfl (by rw [IntKind.wrap_u8]; omega) ?_
              refine RW.add (r := (((a.toNat ||| 32) - 87 : Nat) : Int)) rfl rfl rfl (by rw [IntKind.wrap_u8]; omega) ?_
              refine RW.assign rfl rfl ?_
              refine RW.nil (EX.bkN (EX.seq (CW.seq (CW.seq ?_))))
              -- mq: region
              refine CW.region ?_
              refine RW.move rfl rfl ?_
              refine RW.move rfl rfl ?_
              refine RW.convI (r := 16) rfl rfl Tryd.underlying3 Tryd.underlying5 rfl ?_
              refine RW.geq rfl rfl rfl ?_
              refine RW.nil (EX.seq ?_)
              -- mq: cond
              first | refine CW.condD rfl (fun h7 => ?_) (fun h7 => ?_) | refine CW.cond rfl (fun h7 => ?_) (fun h7 => ?_)
              · skip
                refine CW.seq (CW.region ?_)
                refine RW.mkI (by kernel_rfl) rfl rfl ?_
                refine RW.assign rfl rfl ?_
                refine RW.assign rfl rfl ?_
                refine RW.nil (EX.seq (CW.ret (EX.seqR (EX.bkR (EX.seqR (EX.lpR (EX.bkR (EX.seqR ?_))))))))
                refine EX.fin2 Tryd.results68 rfl rfl (fun wz hw => ?_)
                -- mq: done
                exact ⟨_, rfl, hw.ext, .inr ⟨.inl (hexV_low (by omega) (.inr (by omega))), rfl⟩⟩
              · skip
                refine CW.skip (EX.seq (CW.seq (CW.seq (CW.region ?_))))
                refine RW.move rfl rfl ?_
                refine RW.move rfl rfl ?_
                refine RW.geq rfl rfl rfl ?_
                refine RW.nil (EX.seq ?_)
                -- mq: cond
                refine CW.condF rfl ((decide_eq_false (by omega))) ?_
                refine CW.skip (EX.seq (CW.seq (CW.region ?_)))
                refine RW.move rfl rfl ?_
                refine RW.move rfl rfl ?_
                refine RW.convI (r := 16) rfl rfl Tryd.underlying3 Tryd.underlying70 rfl ?_
                refine RW.mul (r := (((0 : Nat) * 16 : Nat) : Int)) rfl rfl rfl (by rw [IntKind.wrap_u64]; omega) ?_
                refine RW.assign rfl rfl ?_
                refine RW.nil (EX.seq (CW.seq ?_))
                -- mq: region
                refine CW.region ?_
                refine RW.move rfl rfl ?_
                refine RW.move rfl rfl ?_
                refine RW.convI (r := (((a.toNat ||| 32) - 87 : Nat) : Int)) rfl rfl Tryd.underlying5 Tryd.underlying70 (by rw [IntKind.wrap_u64]; omega) ?_
                refine RW.add (r := (((0 : Nat) * 16 + ((a.toNat ||| 32) - 87) : Nat) : Int)) rfl rfl rfl (by rw [IntKind.wrap_u64]; omega) ?_
                refine RW.assign rfl rfl ?_
                refine RW.nil (EX.seq (CW.seq (CW.seq (CW.region ?_))))
                refine RW.move rfl rfl ?_
                refine RW.move rfl rfl ?_
                refine RW.lss rfl rfl rfl ?_
                refine RW.move rfl rfl ?_
                -- mq: guard slot 155
                refine RW.guardT rfl rfl (decide_eq_false (by omega)) ?_
                refine RW.move rfl rfl ?_
                refine RW.guardT rfl rfl (decide_eq_false (by omega)) ?_
                refine RW.move rfl rfl ?_
                refine RW.guardT rfl rfl (decide_eq_false (by omega)) ?_
                refine RW.gtr rfl rfl rfl ?_
                refine RW.pickC rfl rfl (decide_eq_false (by omega)) rfl ?_
                refine RW.nil (EX.seq ?_)
                -- mq: cond
                refine CW.condF rfl ((decide_eq_false (by omega))) ?_
                refine CW.skip (EX.seq (CW.region ?_))
                refine RW.move rfl rfl ?_
                refine RW.assign rfl rfl ?_
                refine RW.nil (EX.bkN (EX.seq (CW.region ?_)))
                refine RW.add rfl rfl rfl (wrap64 (by omega) (by omega)) ?_
                refine RW.move rfl rfl ?_
                refine RW.nil ?_
                -- mq: loopend
                exact EX.lpN (1, 0 * 16 + ((a.toNat ||| 32) - 87)) (.inr (.inl ⟨rfl, by rw [Nat.zero_mul, Nat.zero_add]; exact (okD_low (by omega) (by omega) (by omega))⟩)) (by dsimp only; omega) (by repeat (first | exact Sub.nil | refine Sub.cons (by rfl) ?_)) (fun w' hw' => hw')
            · skip
              refine CW.seq (CW.region ?_)
              refine RW.mkI (by kernel_rfl) rfl rfl ?_
              refine RW.assign rfl rfl ?_
              refine RW.assign rfl rfl ?_
              refine RW.nil (EX.seq (CW.ret (EX.bkR (EX.seqR (EX.bkR (EX.seqR (EX.lpR (EX.bkR (EX.seqR ?_)))))))))
              refine EX.fin2 Tryd.results68 rfl rfl (fun wz hw => ?_)
              -- mq: done
              exact ⟨_, rfl, hw.ext, .inr ⟨.inl (hexV_low (by omega) (.inl (by omega))), rfl⟩⟩
          · skip
            have h4p := of_decide_eq_false h4
            refine RW.guardF rfl rfl rfl h4 ?_
            refine RW.guardF rfl rfl rfl h4 ?_
            refine RW.guardF rfl rfl rfl h4 ?_
            refine RW.pickC rfl rfl h4 rfl ?_
            refine RW.assign rfl rfl ?_
            refine RW.nil (EX.seq ?_)
            -- mq: cond
            refine CW.condF rfl (rfl) ?_
            refine CW.seq (CW.region ?_)
            refine RW.mkI (by kernel_rfl) rfl rfl ?_
            refine RW.assign rfl rfl ?_
            refine RW.assign rfl rfl ?_
            refine RW.nil (EX.seq (CW.ret (EX.bkR (EX.seqR (EX.bkR (EX.seqR (EX.lpR (EX.bkR (EX.seqR ?_)))))))))
            refine EX.fin2 Tryd.results68 rfl rfl (fun wz hw => ?_)
            -- mq: done
            exact ⟨_, rfl, hw.ext, .inr ⟨.inl (hexV_low (by omega) (.inl (by omega))), rfl⟩⟩
    · skip
      have hu16 := hu.1
      have hl8 : b.toNat ||| 32 < 256 := Nat.or_lt_two_pow (n := 8) (by omega) (by decide)
      refine CW.seq (CW.region ?_)
      refine RW.lss rfl rfl rfl ?_
      refine RW.nil (EX.seq (CW.seq ?_))
      -- mq: cond
      refine CW.condT rfl ((decide_eq_true (by omega))) ?_
      refine CW.skip (EX.seq (CW.seq (CW.block (CW.seq (CW.region ?_)))))
      refine RW.ixAddr (q := 1) sl56 rfl rfl rfl (by first | rfl | assumption) (by omega) (by omega) ?_
      refine RW.load1 sc5 rfl rfl (fun w' hw' => byt_u8' hw' Has.head (k := 1) (a := b) rfl) ?_
      refine RW.assign rfl rfl ?_
      refine RW.nil (EX.seq (CW.seq (CW.region ?_)))
      refine RW.assign rfl rfl ?_
      refine RW.nil (EX.seq (CW.seq (CW.block (CW.seq ?_))))
      -- mq: region
      refine CW.join ([(1, .int .i64 16), (8, .bool false), (10, .int .u64 1152921504606846976), (11, .int .u64 255), (12, .bool false), (13, .int .u64 ((u : Nat) : Int)), (99, .slice (some ⟨gb, 0, none⟩) 2 cb), (100, .int .i64 2), (101, .int .i64 ((1 : Nat) : Int)), (15, .int .u8 (b.toNat : Int)), (106, .bool false)]) (SH w [] [byt gb 5 (EU8.all [a, b])]) ?_ ?_
      · skip
        refine CW.region ?_
        refine RW.move rfl rfl ?_
        refine RW.eqlI rfl rfl rfl ?_
        refine RW.move rfl rfl ?_
        -- mq: guard slot 109
        refine RW.casesB 109 rfl (fun h1 => ?_) (fun h1 => ?_)
        · skip
          have h1p := of_decide_eq_true h1
          refine RW.guardT rfl rfl h1 ?_
          refine RW.move rfl rfl ?_
          refine RW.pickB rfl rfl h1 rfl ?_
          refine RW.assign rfl rfl ?_
          refine RW.nil ?_
          -- mq: joinend
          exact EX.jn (by repeat (first | exact Sub.nil | refine Sub.cons (by rfl) ?_)) (fun _ h => h)
        · skip
          have h1p := of_decide_eq_false h1
          refine RW.guardF rfl rfl rfl h1 ?_
          refine RW.pickC rfl rfl h1 rfl ?_
          refine RW.assign rfl rfl ?_
          refine RW.nil ?_
          -- mq: joinend
          exact EX.jn (by repeat (first | exact Sub.nil | refine Sub.cons (by rfl) ?_)) (fun _ h => h)
      · skip
        refine EX.seq ?_
        -- mq: cond
        refine CW.condF rfl (rfl) ?_
        refine CW.seq (CW.region ?_)
        refine RW.move rfl rfl ?_
        refine RW.leq rfl rfl rfl ?_
        refine RW.move rfl rfl ?_
        -- mq: guard slot 115
        refine RW.casesB 115 rfl (fun h2 => ?_) (fun h2 => ?_)
        · skip
          have h2p := of_decide_eq_true h2
          refine RW.guardT rfl rfl h2 ?_
          refine RW.move rfl rfl ?_
          refine RW.guardT rfl rfl h2 ?_
          refine RW.leq rfl rfl rfl ?_
          refine RW.pickB rfl rfl h2 rfl ?_
          refine RW.assign rfl rfl ?_
          refine RW.nil (EX.seq ?_)
          -- mq: cond
          first | refine CW.condD rfl (fun h3 => ?_) (fun h3 => ?_) | refine CW.cond rfl (fun h3 => ?_) (fun h3 => ?_)
          · skip
            refine CW.region ?_
            refine RW.move rfl rfl ?_
            refine RW.sub_ (r := ((b.toNat - 48 : Nat) : Int)) rfl rfl rfl (by rw [IntKind.wrap_u8]; omega) ?_
            refine RW.assign rfl rfl ?_
            refine RW.nil (EX.bkN (EX.seq (CW.seq (CW.seq ?_))))
            -- mq: region
            refine CW.region ?_
            refine RW.move rfl rfl ?_
            refine RW.move rfl rfl ?_
            refine RW.convI (r := 16) rfl rfl Tryd.underlying3 Tryd.underlying5 rfl ?_
            refine RW.geq rfl rfl rfl ?_
            refine RW.nil (EX.seq ?_)
            -- mq: cond
            refine CW.condF rfl ((decide_eq_false (by omega))) ?_
            refine CW.skip (EX.seq (CW.seq (CW.seq (CW.region ?_))))
            refine RW.move rfl rfl ?_
            refine RW.move rfl rfl ?_
            refine RW.geq rfl rfl rfl ?_
            refine RW.nil (EX.seq ?_)
            -- mq: cond
            refine CW.condF rfl ((decide_eq_false (by omega))) ?_
            refine CW.skip (EX.seq (CW.seq (CW.region ?_)))
            refine RW.move rfl rfl ?_
            refine RW.move rfl rfl ?_
            refine RW.convI (r := 16) rfl rfl Tryd.underlying3 Tryd.underlying70 rfl ?_
            refine RW.mul (r := ((u * 16 : Nat) : Int)) rfl rfl rfl (by rw [IntKind.wrap_u64]; omega) ?_
            refine RW.assign rfl rfl ?_
            refine RW.nil (EX.seq (CW.seq ?_))
            -- mq: region
            refine CW.region ?_
            refine RW.move rfl rfl ?_
            refine RW.move rfl rfl ?_
            refine RW.convI (r := ((b.toNat - 48 : Nat) : Int)) rfl rfl Tryd.underlying5 Tryd.underlying70 (by rw [IntKind.wrap_u64]; omega) ?_
            refine RW.add (r := ((u * 16 + (b.toNat - 48) : Nat) : Int)) rfl rfl rfl (by rw [IntKind.wrap_u64]; omega) ?_
            refine RW.assign rfl rfl ?_
            refine RW.nil (EX.seq (CW.seq (CW.seq (CW.region ?_))))
            refine RW.move rfl rfl ?_
            refine RW.move rfl rfl ?_
            refine RW.lss rfl rfl rfl ?_
            refine RW.move rfl rfl ?_
            -- mq: guard slot 155
            refine RW.guardT rfl rfl (decide_eq_false (by omega)) ?_
            refine RW.move rfl rfl ?_
            refine RW.guardT rfl rfl (decide_eq_false (by omega)) ?_
            refine RW.move rfl rfl ?_
            refine RW.guardT rfl rfl (decide_eq_false (by omega)) ?_
            refine RW.gtr rfl rfl rfl ?_
            refine RW.pickC rfl rfl (decide_eq_false (by omega)) rfl ?_
            refine RW.nil (EX.seq ?_)
            -- mq: cond
            refine CW.condF rfl ((decide_eq_false (by omega))) ?_
            refine CW.skip (EX.seq (CW.region ?_))
            refine RW.move rfl rfl ?_
            refine RW.assign rfl rfl ?_
            refine RW.nil (EX.bkN (EX.seq (CW.region ?_)))
            refine RW.add rfl rfl rfl (wrap64 (by omega) (by omega)) ?_
            refine RW.move rfl rfl ?_
            refine RW.nil ?_
            -- mq: loopend
            exact EX.lpN (2, u * 16 + (b.toNat - 48)) (.inr (.inr ⟨rfl, _, _, hu, (okD_dig (by omega)), by dsimp only; omega⟩)) (by dsimp only; omega) (by repeat (first | exact Sub.nil | refine Sub.cons (by rfl) ?_)) (fun w' hw' => hw')
          · skip
            refine CW.seq (CW.region ?_)
            refine RW.move rfl rfl ?_
            refine RW.call rfl caLow rfl (fun w' _ => low_c w' b) ?_
            refine RW.leq rfl rfl rfl ?_
            refine RW.move rfl rfl ?_
            -- mq: guard slot 125
            refine RW.casesB 125 rfl (fun h4 => ?_) (fun h4 => ?_)
            · skip
              have h4p := of_decide_eq_true h4
              refine RW.guardT rfl rfl h4 ?_
              refine RW.move rfl rfl ?_
              refine RW.guardT rfl rfl h4 ?_
              refine RW.call rfl caLow rfl (fun w' _ => low_c w' b) ?_
              refine RW.guardT rfl rfl h4 ?_
              refine RW.leq rfl rfl rfl ?_
              refine RW.pickB rfl rfl h4 rfl ?_
              refine RW.assign rfl rfl ?_
              refine RW.nil (EX.seq ?_)
              -- mq: cond
              first | refine CW.condD rfl (fun h5 => ?_) (fun h5 => ?_) | refine CW.cond rfl (fun h5 => ?_) (fun h5 => ?_)
              · skip
                refine CW.region ?_
                refine RW.move rfl rfl ?_
                refine RW.call rfl caLow rfl (fun w' _ => low_c w' b) ?_
                refine RW.sub_ (r := (((b.toNat ||| 32) - 97 : Nat) : Int)) rfl rfl rfl (by rw [IntKind.wrap_u8]; omega) ?_
                refine RW.add (r := (((b.toNat ||| 32) - 87 : Nat) : Int)) rfl rfl rfl (by rw [IntKind.wrap_u8]; omega) ?_
                refine RW.assign rfl rfl ?_
                refine RW.nil (EX.bkN (EX.seq (CW.seq (CW.seq ?_))))
                -- mq: region
                refine CW.region ?_
                refine RW.move rfl rfl ?_
                refine RW.move rfl rfl ?_
                refine RW.convI (r := 16) rfl rfl Tryd.underlying3 Tryd.underlying5 rfl ?_
                refine RW.geq rfl rfl rfl ?_
                refine RW.nil (EX.seq ?_)
                -- mq: cond
                first | refine CW.condD rfl (fun h7 => ?_) (fun h7 => ?_) | refine CW.cond rfl (fun h7 => ?_) (fun h7 => ?_)
                · skip
                  refine CW.seq (CW.region ?_)
                  refine RW.mkI (by kernel_rfl) rfl rfl ?_
                  refine RW.assign rfl rfl ?_
                  refine RW.assign rfl rfl ?_
                  refine RW.nil (EX.seq (CW.ret (EX.seqR (EX.bkR (EX.seqR (EX.lpR (EX.bkR (EX.seqR ?_))))))))
                  refine EX.fin2 Tryd.results68 rfl rfl (fun wz hw => ?_)
                  -- mq: done
                  exact ⟨_, rfl, hw.ext, .inr ⟨.inr (hexV_low (by omega) (.inr (by omega))), rfl⟩⟩
                · skip
                  refine CW.skip (EX.seq (CW.seq (CW.seq (CW.region ?_))))
                  refine RW.move rfl rfl ?_
                  refine RW.move rfl rfl ?_
                  refine RW.geq rfl rfl rfl ?_
                  refine RW.nil (EX.seq ?_)
                  -- mq: cond
                  refine CW.condF rfl ((decide_eq_false (by omega))) ?_
                  refine CW.skip (EX.seq (CW.seq (CW.region ?_)))
                  refine RW.move rfl rfl ?_
                  refine RW.move rfl rfl ?_
                  refine RW.convI (r := 16) rfl rfl Tryd.underlying3 Tryd.underlying70 rfl ?_
                  refine RW.mul (r := ((u * 16 : Nat) : Int)) rfl rfl rfl (by rw [IntKind.wrap_u64]; omega) ?_
                  refine RW.assign rfl rfl ?_
                  refine RW.nil (EX.seq (CW.seq ?_))
                  -- mq: region
                  refine CW.region ?_
                  refine RW.move rfl rfl ?_
                  refine RW.move rfl rfl ?_
                  refine RW.convI (r := (((b.toNat ||| 32) - 87 : Nat) : Int)) rfl rfl Tryd.underlying5 Tryd.underlying70 (by rw [IntKind.wrap_u64]; omega) ?_
                  refine RW.add (r := ((u * 16 + ((b.toNat ||| 32) - 87) : Nat) : Int)) rfl rfl rfl (by rw [IntKind.wrap_u64]; omega) ?_
                  refine RW.assign rfl rfl ?_
                  refine RW.nil (EX.seq (CW.seq (CW.seq (CW.region ?_))))
                  refine RW.move rfl rfl ?_
                  refine RW.move rfl rfl ?_
                  refine RW.lss rfl rfl rfl ?_
                  refine RW.move rfl rfl ?_
                  -- mq: guard slot 155
                  refine RW.guardT rfl rfl (decide_eq_false (by omega)) ?_
                  refine RW.move rfl rfl ?_
                  refine RW.guardT rfl rfl (decide_eq_false (by omega)) ?_
                  refine RW.move rfl rfl ?_
                  refine RW.guardT rfl rfl (decide_eq_false (by omega)) ?_
                  refine RW.gtr rfl rfl rfl ?_
                  refine RW.pickC rfl rfl (decide_eq_false (by omega)) rfl ?_
                  refine RW.nil (EX.seq ?_)
                  -- mq: cond
                  refine CW.condF rfl ((decide_eq_false (by omega))) ?_
                  refine CW.skip (EX.seq (CW.region ?_))
                  refine RW.move rfl rfl ?_
                  refine RW.assign rfl rfl ?_
                  refine RW.nil (EX.bkN (EX.seq (CW.region ?_)))
                  refine RW.add rfl rfl rfl (wrap64 (by omega) (by omega)) ?_
                  refine RW.move rfl rfl ?_
                  refine RW.nil ?_
                  -- mq: loopend
                  exact EX.lpN (2, u * 16 + ((b.toNat ||| 32) - 87)) (.inr (.inr ⟨rfl, _, _, hu, (okD_low (by omega) (by omega) (by omega)), by dsimp only; omega⟩)) (by dsimp only; omega) (by repeat (first | exact Sub.nil | refine Sub.cons (by rfl) ?_)) (fun w' hw' => hw')
              · skip
                refine CW.seq (CW.region ?_)
                refine RW.mkI (by kernel_rfl) rfl rfl ?_
                refine RW.assign rfl rfl ?_
                refine RW.assign rfl rfl ?_
                refine RW.nil (EX.seq (CW.ret (EX.bkR (EX.seqR (EX.bkR (EX.seqR (EX.lpR (EX.bkR (EX.seqR ?_)))))))))
                refine EX.fin2 Tryd.results68 rfl rfl (fun wz hw => ?_)
                -- mq: done
                exact ⟨_, rfl, hw.ext, .inr ⟨.inr (hexV_low (by omega) (.inl (by omega))), rfl⟩⟩
            · skip
              have h4p := of_decide_eq_false h4
              refine RW.guardF rfl rfl rfl h4 ?_
              refine RW.guardF rfl rfl rfl h4 ?_
              refine RW.guardF rfl rfl rfl h4 ?_
              refine RW.pickC rfl rfl h4 rfl ?_
              refine RW.assign rfl rfl ?_
              refine RW.nil (EX.seq ?_)
              -- mq: cond
              refine CW.condF rfl (rfl) ?_
              refine CW.seq (CW.region ?_)
              refine RW.mkI (by kernel_rfl) rfl rfl ?_
              refine RW.assign rfl rfl ?_
              refine RW.assign rfl rfl ?_
              refine RW.nil (EX.seq (CW.ret (EX.bkR (EX.seqR (EX.bkR (EX.seqR (EX.lpR (EX.bkR (EX.seqR ?_)))))))))
              refine EX.fin2 Tryd.results68 rfl rfl (fun wz hw => ?_)
              -- mq: done
              exact ⟨_, rfl, hw.ext, .inr ⟨.inr (hexV_low (by omega) (.inl (by omega))), rfl⟩⟩
        · skip
          have h2p := of_decide_eq_false h2
          refine RW.guardF rfl rfl rfl h2 ?_
          refine RW.guardF rfl rfl rfl h2 ?_
          refine RW.pickC rfl rfl h2 rfl ?_
          refine RW.assign rfl rfl ?_
          refine RW.nil (EX.seq ?_)
          -- mq: cond
          refine CW.condF rfl (rfl) ?_
          refine CW.seq (CW.region ?_)
          refine RW.move rfl rfl ?_
          refine RW.call rfl caLow rfl (fun w' _ => low_c w' b) ?_
          refine RW.leq rfl rfl rfl ?_
          refine RW.move rfl rfl ?_
          -- mq: guard slot 125
          refine RW.casesB 125 rfl (fun h4 => ?_) (fun h4 => ?_)
          · skip
            have h4p := of_decide_eq_true h4
            refine RW.guardT rfl rfl h4 ?_
            refine RW.move rfl rfl ?_
            refine RW.guardT rfl rfl h4 ?_
            refine RW.call rfl caLow rfl (fun w' _ => low_c w' b) ?_
            refine RW.guardT rfl rfl h4 ?_
            refine RW.leq rfl rfl rfl ?_
            refine RW.pickB rfl rfl h4 rfl ?_
            refine RW.assign rfl rfl ?_
            refine RW.nil (EX.seq ?_)
            -- mq: cond
            first | refine CW.condD rfl (fun h5 => ?_) (fun h5 => ?_) | refine CW.cond rfl (fun h5 => ?_) (fun h5 => ?_)
            · skip
              refine CW.region ?_
              refine RW.move rfl rfl ?_
              refine RW.call rfl caLow rfl (fun w' _ => low_c w' b) ?_
              refine RW.sub_ (r := (((b.toNat ||| 32) - 97 : Nat) : Int)) rfl rfl rfl (by rw [IntKind.wrap_u8]; omega) ?_
              refine RW.add (r := (((b.toNat ||| 32) - 87 : Nat) : Int)) rfl rfl rfl (by rw [IntKind.wrap_u8]; omega) ?_
              refine RW.assign rfl rfl ?_
              refine RW.nil (EX.bkN (EX.seq (CW.seq (CW.seq ?_))))
              -- mq: region
              refine CW.region ?_
              refine RW.move rfl rfl ?_
              refine RW.move rfl rfl ?_
              refine RW.convI (r := 16) rfl rfl Tryd.underlying3 Tryd.underlying5 rfl ?_
              refine RW.geq rfl rfl rfl ?_
              refine RW.nil (EX.seq ?_)
              -- mq: cond
              first | refine CW.condD rfl (fun h7 => ?_) (fun h7 => ?_) | refine CW.cond rfl (fun h7 => ?_) (fun h7 => ?_)
              · skip
                refine CW.seq (CW.region ?_)
                refine RW.mkI (by kernel_rfl) rfl rfl ?_
                refine RW.assign rfl rfl ?_
                refine RW.assign rfl rfl ?_
                refine RW.nil (EX.seq (CW.ret (EX.seqR (EX.bkR (EX.seqR (EX.lpR (EX.bkR (EX.seqR ?_))))))))
                refine EX.fin2 Tryd.results68 rfl rfl (fun wz hw => ?_)
                -- mq: done
                exact ⟨_, rfl, hw.ext, .inr ⟨.inr (hexV_low (by omega) (.inr (by omega))), rfl⟩⟩
              · skip
                refine CW.skip (EX.seq (CW.seq (CW.seq (CW.region ?_))))
                refine RW.move rfl rfl ?_
                refine RW.move rfl rfl ?_
                refine RW.geq rfl rfl rfl ?_
                refine RW.nil (EX.seq ?_)
                -- mq: cond
                refine CW.condF rfl ((decide_eq_false (by omega))) ?_
                refine CW.skip (EX.seq (CW.seq (CW.region ?_)))
                refine RW.move rfl rfl ?_
                refine RW.move rfl rfl ?_
                refine RW.convI (r := 16) rfl rfl Tryd.underlying3 Tryd.underlying70 rfl ?_
                refine RW.mul (r := ((u * 16 : Nat) : Int)) rfl rfl rfl (by rw [IntKind.wrap_u64]; omega) ?_
                refine RW.assign rfl rfl ?_
                refine RW.nil (EX.seq (CW.seq ?_))
                -- mq: region
                refine CW.region ?_
                refine RW.move rfl rfl ?_
                refine RW.move rfl rfl ?_
                refine RW.convI (r := (((b.toNat ||| 32) - 87 : Nat) : Int)) rfl rfl Tryd.underlying5 Tryd.underlying70 (by rw [IntKind.wrap_u64]; omega) ?_
                refine RW.add (r := ((u * 16 + ((b.toNat ||| 32) - 87) : Nat) : Int)) rfl rfl rfl (by rw [IntKind.wrap_u64]; omega) ?_
                refine RW.assign rfl rfl ?_
                refine RW.nil (EX.seq (CW.seq (CW.seq (CW.region ?_))))
                refine RW.move rfl rfl ?_
                refine RW.move rfl rfl ?_
                refine RW.lss rfl rfl rfl ?_
                refine RW.move rfl rfl ?_
                -- mq: guard slot 155
                refine RW.guardT rfl rfl (decide_eq_false (by omega)) ?_
                refine RW.move rfl rfl ?_
                refine RW.guardT rfl rfl (decide_eq_false (by omega)) ?_
                refine RW.move rfl rfl ?_
                refine RW.guardT rfl rfl (decide_eq_false (by omega)) ?_
                refine RW.gtr rfl rfl rfl ?_
                refine RW.pickC rfl rfl (decide_eq_false (by omega)) rfl ?_
                refine RW.nil (EX.seq ?_)
                -- mq: cond
                refine CW.condF rfl ((decide_eq_false (by omega))) ?_
                refine CW.skip (EX.seq (CW.region ?_))
                refine RW.move rfl rfl ?_
                refine RW.assign rfl rfl ?_
                refine RW.nil (EX.bkN (EX.seq (CW.region ?_)))
                refine RW.add rfl rfl rfl (wrap64 (by omega) (by omega)) ?_
                refine RW.move rfl rfl ?_
                refine RW.nil ?_
                -- mq: loopend
                exact EX.lpN (2, u * 16 + ((b.toNat ||| 32) - 87)) (.inr (.inr ⟨rfl, _, _, hu, (okD_low (by omega) (by omega) (by omega)), by dsimp only; omega⟩)) (by dsimp only; omega) (by repeat (first | exact Sub.nil | refine Sub.cons (by rfl) ?_)) (fun w' hw' => hw')
            · skip
              refine CW.seq (CW.region ?_)
              refine RW.mkI (by kernel_rfl) rfl rfl ?_
              refine RW.assign rfl rfl ?_
              refine RW.assign rfl rfl ?_
              refine RW.nil (EX.seq (CW.ret (EX.bkR (EX.seqR (EX.bkR (EX.seqR (EX.lpR (EX.bkR (EX.seqR ?_)))))))))
              refine EX.fin2 Tryd.results68 rfl rfl (fun wz hw => ?_)
              -- mq: done
              exact ⟨_, rfl, hw.ext, .inr ⟨.inr (hexV_low (by omega) (.inl (by omega))), rfl⟩⟩
          · skip
            have h4p := of_decide_eq_false h4
            refine RW.guardF rfl rfl rfl h4 ?_
            refine RW.guardF rfl rfl rfl h4 ?_
            refine RW.guardF rfl rfl rfl h4 ?_
            refine RW.pickC rfl rfl h4 rfl ?_
            refine RW.assign rfl rfl ?_
            refine RW.nil (EX.seq ?_)
            -- mq: cond
            refine CW.condF rfl (rfl) ?_
            refine CW.seq (CW.region ?_)
            refine RW.mkI (by kernel_rfl) rfl rfl ?_
            refine RW.assign rfl rfl ?_
            refine RW.assign rfl rfl ?_
            refine RW.nil (EX.seq (CW.ret (EX.bkR (EX.seqR (EX.bkR (EX.seqR (EX.lpR (EX.bkR (EX.seqR ?_)))))))))
            refine EX.fin2 Tryd.results68 rfl rfl (fun wz hw => ?_)
            -- mq: done
            exact ⟨_, rfl, hw.ext, .inr ⟨.inr (hexV_low (by omega) (.inl (by omega))), rfl⟩⟩
    · skip
      refine CW.seq (CW.region ?_)
      refine RW.lss rfl rfl rfl ?_
      refine RW.nil (EX.seq (CW.seq ?_))
      -- mq: cond
      refine CW.condF rfl ((decide_eq_false (by omega))) ?_
      refine CW.exit (EX.seqE (EX.lpE (EX.bkE (EX.seq (CW.seq (CW.seq (CW.region ?_)))))))
      refine RW.move rfl rfl ?_
      refine RW.move rfl rfl ?_
      refine RW.guardF rfl rfl rfl rfl ?_
      refine RW.guardF rfl rfl rfl rfl ?_
      refine RW.guardF rfl rfl rfl rfl ?_
      refine RW.pickC rfl rfl rfl rfl ?_
      refine RW.nil (EX.seq ?_)
      -- mq: cond
      refine CW.condF rfl (rfl) ?_
      refine CW.skip (EX.seq (CW.seq (CW.region ?_)))
      refine RW.move rfl rfl ?_
      refine RW.assign rfl rfl ?_
      refine RW.assign rfl rfl ?_
      refine RW.nil (EX.seq (CW.ret ?_))
      refine EX.fin2 Tryd.results68 rfl rfl (fun wz hw => ?_)
      -- mq: done
      exact ⟨_, rfl, hw.ext, .inl ⟨y, z, hy.1, hz.1, hy.2, hz.2, rfl⟩⟩
section
variable {P : Program} {n : Nat} {ops : Array Oper} {Q : Post} {rest : List Oper} {l : Fr} {H : World → Prop} {d : Nat} {ty : TypeId} {pos : String} {af : Array Edge} {x : Operand} {xt yt : TypeId}
theorem RW.neqNilAt (ht : P.isIface xt = true) (hd : Nat.blt d n = true) (hx : ev l x = some .nilIface)
    (h : RW P n ops Q rest ((d, .bool false) :: l) H) : RW P n ops Q (⟨some d, .binOp .neq xt x (.const .nilIface) yt, ty, pos, af, none⟩ :: rest) l H :=
  RW.val _ hd (fun ρ w hρ => by
    have e1 : ρ (.const .nilIface) = .nilIface := hρ _ _ rfl
    have e2 := run_neq_nil_nil_at (P := P) w xt ht
    simp [execOp, hρ x _ hx, e1, eqGuard_nil_constR, e2]) h
theorem RW.neqErr {t : TypeId} {p : Value} (ht : P.isIface xt = true) (hd : Nat.blt d n = true) (hx : ev l x = some (.iface t p))
    (h : RW P n ops Q rest ((d, .bool true) :: l) H) : RW P n ops Q (⟨some d, .binOp .neq xt x (.const .nilIface) yt, ty, pos, af, none⟩ :: rest) l H :=
  RW.val _ hd (fun ρ w hρ => by
    have e1 : ρ (.const .nilIface) = .nilIface := hρ _ _ rfl
    have e2 := run_neq_iface_nil (P := P) w xt ht t p
    have e3 : eqGuard .neq xt x (.const .nilIface) (.iface t p) .nilIface = pure () := by rfl
    simp [execOp, hρ x _ hx, e1, e3, e2]) h
end
def IsErrU (v : Value) : Prop := ∃ (x : Nat) (t : TypeId) (p : Value), v = .tuple #[.int .u64 (x : Int), .iface t p]
def pu17_ren : Shelf.Ren := ⟨fun | 17 => 51 | 21 => 64 | 22 => 65 | 23 => 66 | 24 => 67 | 25 => 78 | 26 => 79 | 27 => 37 | 28 => 54 | 29 => 69 | 30 => 82 | 31 => 83 | 32 => 84 | 33 => 85 | 34 => 94 | 35 => 95 | 36 => 96 | 37 => 97 | 38 => 98 | 39 => 102 | 40 => 103 | n => n, fun | 0 => 0 | 2 => 2 | 3 => 3 | 4 => 4 | 5 => 5 | 9 => 9 | 20 => 20 | 22 => 70 | 24 => 53 | 34 => 77 | 36 => 57 | 37 => 56 | 39 => 80 | 44 => 92 | 47 => 104 | 48 => 105 | 50 => 107 | 52 => 95 | 55 => 98 | 59 => 109 | 60 => 110 | 61 => 111 | 65 => 123 | 66 => 124 | 67 => 89 | n => n, fun | 0 => 0 | 1 => 1 | 2 => 3 | 3 => 6 | 4 => 7 | n => n⟩
theorem pu17 : LaysPu.n17 Tryd.prog pu17_ren where
  mixed := by kernel_rfl
  f17 := Tryd.func51.trans (congrArg some (by kernel_rfl))
  f21 := Tryd.func64.trans (congrArg some (by kernel_rfl))
  f22 := Tryd.func65.trans (congrArg some (by kernel_rfl))
  f23 := Tryd.func66.trans (congrArg some (by kernel_rfl))
  f24 := Tryd.func67.trans (congrArg some (by kernel_rfl))
  f25 := Tryd.func78.trans (congrArg some (by kernel_rfl))
  f26 := Tryd.func79.trans (congrArg some (by kernel_rfl))
  f27 := Tryd.func37.trans (congrArg some (by kernel_rfl))
  f28 := Tryd.func54.trans (congrArg some (by kernel_rfl))
  f29 := Tryd.func69.trans (congrArg some (by kernel_rfl))
  f30 := Tryd.func82.trans (congrArg some (by kernel_rfl))
  f31 := Tryd.func83.trans (congrArg some (by kernel_rfl))
  f32 := Tryd.func84.trans (congrArg some (by kernel_rfl))
  f33 := Tryd.func85.trans (congrArg some (by kernel_rfl))
  f34 := Tryd.func94.trans (congrArg some (by kernel_rfl))
  f35 := Tryd.func95.trans (congrArg some (by kernel_rfl))
  f36 := Tryd.func96.trans (congrArg some (by kernel_rfl))
  f37 := Tryd.func97.trans (congrArg some (by kernel_rfl))
  f38 := Tryd.func98.trans (congrArg some (by kernel_rfl))
  f39 := Tryd.func102.trans (congrArg some (by kernel_rfl))
  f40 := Tryd.func103.trans (congrArg some (by kernel_rfl))
  t0 := Tryd.underlying0
  a0 := Tryd.isAgg0
  z0 := Tryd.sizeOf0
  v0 := Tryd.zeroValue0
  i0 := by kernel_rfl
  t2 := Tryd.underlying2
  a2 := Tryd.isAgg2
  z2 := Tryd.sizeOf2
  v2 := Tryd.zeroValue2
  i2 := by kernel_rfl
  t3 := Tryd.underlying3
  a3 := Tryd.isAgg3
  z3 := Tryd.sizeOf3
  v3 := Tryd.zeroValue3
  i3 := by kernel_rfl
  t4 := Tryd.underlying4
  a4 := Tryd.isAgg4
  z4 := Tryd.sizeOf4
  v4 := Tryd.zeroValue4
  i4 := by kernel_rfl
  t5 := Tryd.underlying5
  a5 := Tryd.isAgg5
  z5 := Tryd.sizeOf5
  v5 := Tryd.zeroValue5
  i5 := by kernel_rfl
  t9 := Tryd.underlying9
  a9 := Tryd.isAgg9
  z9 := Tryd.sizeOf9
  v9 := Tryd.zeroValue9
  i9 := by kernel_rfl
  t20 := Tryd.underlying20
  a20 := Tryd.isAgg20
  z20 := Tryd.sizeOf20
  v20 := Tryd.zeroValue20
  i20 := by kernel_rfl
  t22 := Tryd.underlying70
  a22 := Tryd.isAgg70
  z22 := Tryd.sizeOf70
  v22 := Tryd.zeroValue70
  i22 := by kernel_rfl
  t24 := Tryd.underlying53
  a24 := Tryd.isAgg53
  z24 := Tryd.sizeOf53
  v24 := Tryd.zeroValue53
  i24 := by kernel_rfl
  t34 := Tryd.underlying77
  a34 := Tryd.isAgg77
  z34 := Tryd.sizeOf77
  v34 := Tryd.zeroValue77
  i34 := by kernel_rfl
  c34 := by kernel_rfl
  t36 := Tryd.underlying57
  a36 := Tryd.isAgg57
  z36 := Tryd.sizeOf57
  v36 := Tryd.zeroValue57
  i36 := by kernel_rfl
  t37 := Tryd.underlying56
  a37 := Tryd.isAgg56
  z37 := Tryd.sizeOf56
  v37 := Tryd.zeroValue56
  i37 := by kernel_rfl
  t39 := Tryd.underlying80
  a39 := Tryd.isAgg80
  z39 := Tryd.sizeOf80
  v39 := Tryd.zeroValue80
  i39 := by kernel_rfl
  t44 := Tryd.underlying92
  a44 := Tryd.isAgg92
  z44 := Tryd.sizeOf92
  v44 := Tryd.zeroValue92
  i44 := by kernel_rfl
  t47 := Tryd.underlying104
  a47 := Tryd.isAgg104
  z47 := Tryd.sizeOf104
  v47 := Tryd.zeroValue104
  i47 := by kernel_rfl
  t48 := Tryd.underlying105
  a48 := Tryd.isAgg105
  z48 := Tryd.sizeOf105
  v48 := Tryd.zeroValue105
  i48 := by kernel_rfl
  t50 := Tryd.underlying107
  a50 := Tryd.isAgg107
  z50 := Tryd.sizeOf107
  v50 := Tryd.zeroValue107
  i50 := by kernel_rfl
  t52 := Tryd.underlying95
  a52 := Tryd.isAgg95
  z52 := Tryd.sizeOf95
  v52 := Tryd.zeroValue95
  i52 := by kernel_rfl
  t55 := Tryd.underlying98
  a55 := Tryd.isAgg98
  z55 := Tryd.sizeOf98
  v55 := Tryd.zeroValue98
  i55 := by kernel_rfl
  t59 := Tryd.underlying109
  a59 := Tryd.isAgg109
  z59 := Tryd.sizeOf109
  v59 := Tryd.zeroValue109
  i59 := by kernel_rfl
  t60 := Tryd.underlying110
  a60 := Tryd.isAgg110
  z60 := Tryd.sizeOf110
  v60 := Tryd.zeroValue110
  i60 := by kernel_rfl
  t61 := Tryd.underlying111
  a61 := Tryd.isAgg111
  z61 := Tryd.sizeOf111
  t65 := Tryd.underlying123
  a65 := Tryd.isAgg123
  z65 := Tryd.sizeOf123
  v65 := Tryd.zeroValue123
  i65 := by kernel_rfl
  t66 := Tryd.underlying124
  a66 := Tryd.isAgg124
  z66 := Tryd.sizeOf124
  v66 := Tryd.zeroValue124
  i66 := by kernel_rfl
  t67 := Tryd.underlying89
  a67 := Tryd.isAgg89
  z67 := Tryd.sizeOf89
  v67 := Tryd.zeroValue89
  i67 := by kernel_rfl
  g0 := by kernel_rfl
  m0 := by kernel_rfl
  g1 := by kernel_rfl
  m1 := by kernel_rfl
  g2 := by kernel_rfl
  m2 := by kernel_rfl
  g3 := by kernel_rfl
  m3 := by kernel_rfl
  g4 := by kernel_rfl
  m4 := by kernel_rfl
theorem caTe : CaT Tryd.prog 51 := CaT.of Tryd.func51 (by kernel_rfl) (by kernel_rfl)
theorem caIpu : CaT Tryd.prog 68 := CaT.of Tryd.func68 (by kernel_rfl) (by kernel_rfl)
def IsIf (v : Value) : Prop := ∃ t p, v = .iface t p
theorem toErr_c (w : World) (hg : Ge w) (fn s : List UInt8) (x y : Int) (hs : s.length ≤ 1000000) :
    Calls Tryd.prog 51 [.string (bs fn), .string (bs s), .int .i64 x, .int .i64 y, .iface 77 (.int .i64 2)].toArray w (RetA (fun v _ => IsIf v) w) := by
  obtain ⟨⟨t, p, hm⟩, _⟩ := hg
  refine (AnyPu.strconv_toError_syntax pu17 (bs fn) (bs s) x y _ w (by rw [bs_size]; omega) hm (.inr ⟨t, p, rfl⟩)).mono ?_
  rintro e w' ⟨N, rfl, _, _, hb⟩
  exact ⟨_, rfl, Ext.of_below hb, _, _, rfl⟩
def IsPu2 (a b : UInt8) (v : Value) : Prop :=
  (∃ y z : Nat, y < 16 ∧ z < 16 ∧ hexI a = (y : Int) ∧ hexI b = (z : Int) ∧ v = .tuple #[.int .u64 ((16 * y + z : Nat) : Int), .nilIface]) ∨
  ((hexI a = -1 ∨ hexI b = -1) ∧ IsErrU v)
theorem pu16_c (w : World) (hg : Ge w) (a b : UInt8) : Calls Tryd.prog 53 [.string (bs [a, b]), .int .i64 16, .int .i64 8].toArray w (RetA (fun v _ => IsPu2 a b v) w) := by
  refine calls (n := 26) Tryd.func53 rfl Tryd.ntmps53 rfl ?_
  refine CW.sub (H' := SH w [] []) ?_ (Sub.refl _) (fun x hx => SH.start' _ _ hx)
  refine CW.seq (CW.region ?_)
  refine RW.assign rfl rfl ?_
  refine RW.assign rfl rfl ?_
  refine RW.nil (EX.seq (CW.seq ?_))
  -- mq: region
  refine CW.region ?_
  refine RW.move rfl rfl ?_
  refine RW.move rfl rfl ?_
  refine RW.move rfl rfl ?_
  -- mq: op 3: ('Op.call', ('Call.mk', ('Callee.value', ('Operand.func', '68')), ('arr', ('Operand.tmp', '11'), ('Operand.tmp', '12'), ('Operand.tmp', '13')), ('arr', '9', '3', '3'))) -> slot 14 ("number.go:105")
  refine RW.callA (R := fun _ v _ => IsPu a b v) rfl caIpu rfl (fun w' _ => inPu_c w' a b) (fun w1 w2 v hw1 he12 hw2 hlt hv => ?_)
  have hx12 : Ext [] w w2 := hw1.ext.trans0 he12
  rcases hv with ⟨y, z, hy, hz, hpa, hpb, rfl⟩ | ⟨hno, rfl⟩
  · skip
    refine RW.move rfl rfl ?_
    refine RW.extract rfl rfl rfl ?_
    refine RW.extract rfl rfl rfl ?_
    refine RW.assign rfl rfl ?_
    refine RW.assign rfl rfl ?_
    refine RW.nil (EX.seq (CW.seq (CW.seq ?_)))
    -- mq: region
    refine CW.region ?_
    refine RW.move rfl rfl ?_
    refine RW.neqNilAt (by kernel_rfl) rfl rfl ?_
    refine RW.nil (EX.seq ?_)
    -- mq: cond
    refine CW.condF rfl (rfl) ?_
    refine CW.skip (EX.seq (CW.seq (CW.region ?_)))
    refine RW.move rfl rfl ?_
    refine RW.assign rfl rfl ?_
    refine RW.assign rfl rfl ?_
    refine RW.nil (EX.seq (CW.ret ?_))
    refine EX.fin2 Tryd.results53 rfl rfl (fun wz hw => ?_)
    -- mq: done
    exact ⟨_, rfl, hx12.trans0 hw.ext, .inl ⟨y, z, hy, hz, hpa, hpb, rfl⟩⟩
  · skip
    refine RW.move rfl rfl ?_
    refine RW.extract rfl rfl rfl ?_
    refine RW.extract rfl rfl rfl ?_
    refine RW.assign rfl rfl ?_
    refine RW.assign rfl rfl ?_
    refine RW.nil (EX.seq (CW.seq (CW.seq ?_)))
    -- mq: region
    refine CW.region ?_
    refine RW.move rfl rfl ?_
    refine RW.neqErr (by kernel_rfl) rfl rfl ?_
    refine RW.nil (EX.seq ?_)
    -- mq: cond
    refine CW.condT rfl (rfl) ?_
    refine CW.seq (CW.region ?_)
    refine RW.move rfl rfl ?_
    refine RW.move rfl rfl ?_
    refine RW.move rfl rfl ?_
    refine RW.move rfl rfl ?_
    refine RW.move rfl rfl ?_
    -- mq: op 5: ('Op.call', ('Call.mk', ('Callee.value', ('Operand.func', '51')), ('arr', ('Operand.const', ('Value.string', ('ByteArray.mk', ('arr', '80', '97', '114', '115', '101', '85', '105', '110', '116')))), ('Operand.tmp', '20'), ('Operand.tmp', '21'), ('Operand.tmp', '22'), ('Operand.tmp', '23')), ('arr', '9', '9', '3', '3', '53'))) -> slot 24 ("number.go:107")
    refine RW.callA (R := fun _ v _ => IsIf v) rfl caTe rfl (fun w' hw' => toErr_c w' (hg.ext (hx12.trans0 hw'.ext)) [80, 97, 114, 115, 101, 85, 105, 110, 116] [a, b] 16 8 (by show 2 ≤ 1000000; decide)) (fun w3 w4 v hw3 he34 hw4 hlt4 hv => ?_)
    obtain ⟨t, p, rfl⟩ := hv
    have hx34 : Ext [] w w4 := (hx12.trans0 hw3.ext).trans0 he34
    refine RW.assign rfl rfl ?_
    refine RW.assign rfl rfl ?_
    refine RW.nil (EX.seq (CW.ret (EX.seqR ?_)))
    refine EX.fin2 Tryd.results53 rfl rfl (fun wz hw => ?_)
    -- mq: done
    exact ⟨_, rfl, hx34.trans0 hw.ext, .inr ⟨hno, _, _, _, rfl⟩⟩
end Go.Proofs.YtemcblinkicblaaDoor.Mq
