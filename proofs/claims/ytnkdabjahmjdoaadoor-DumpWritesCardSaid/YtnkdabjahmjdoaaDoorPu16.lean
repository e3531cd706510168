/- ParseUint of two bytes at base 16 into 8 bits (its rounds printed by gen_pu16.py) -/
import Derived.Test.YtnkdabjahmjdoaaDoorTd
import Derived.Test.YtnkdabjahmjdoaaDoorByt
import Derived.Test.YtnkdabjahmjdoaaDoorAto
namespace Go.Proofs.YtnkdabjahmjdoaaDoor.Mq
open Go Go.RowKit Go.Proofs

section
variable {P : Program} {n : Nat} {ops : Array Oper} {Q : Post} {rest : List Oper} {l : Fr} {H : World → Prop} {d : Nat} {ty : TypeId} {pos : String} {af : Array Edge} {x : Operand}
theorem RW.mkI {t : TypeId} {v : Value} (ht : P.concrete t = true) (hd : Nat.blt d n = true) (hx : ev l x = some v) (h : RW P n ops Q rest ((d, .iface t v) :: l) H) :
    RW P n ops Q (⟨some d, .makeInterface t x, ty, pos, af, none⟩ :: rest) l H :=
  RW.val _ hd (fun ρ w hρ => by
    have e := run_makeInterface (P := P) w t v ht
    simp [execOp, hρ x _ hx, e]) h
end
theorem caLow : CaT Tryd.prog 86 := CaT.of Tryd.func86 (by kernel_rfl) (by kernel_rfl)
theorem low_c (w : World) (c : UInt8) : Calls Tryd.prog 86 [.int .u8 (c.toNat : Int)].toArray w (fun e w' => e = .returned (.int .u8 ((c.toNat ||| 32 : Nat) : Int)) ∧ Ext [] w w') := by
  have hc := UInt8.toNat_lt c
  have hb : c.toNat ||| 32 < 2 ^ 8 := Nat.or_lt_two_pow hc (by decide)
  refine calls (n := 5) Tryd.func86 rfl Tryd.ntmps86 rfl ?_
  refine CW.sub (H' := SH w [] []) ?_ (Sub.refl _) (fun x hx => SH.start' _ _ hx)
  refine CW.seq (CW.region ?_)
  refine RW.assign rfl rfl ?_
  refine RW.nil (EX.seq (CW.seq (CW.region ?_)))
  refine RW.move rfl rfl ?_
  refine RW.or_ (r := ((c.toNat ||| 32 : Nat) : Int)) rfl rfl rfl (or_eq (m := c.toNat) (n := 32) rfl rfl (by simp only [IntKind.bits]; omega) (by decide) (wrapN8 (by omega) (by omega))) ?_
  refine RW.assign rfl rfl ?_
  refine RW.nil (EX.seq (CW.ret ?_))
  refine EX.fin1 Tryd.results86 rfl (fun wz hw => ?_)
  -- mq: done
  exact ⟨rfl, hw.ext⟩
theorem low_hex {c : UInt8} {k : Nat} (h : hexV c = some k) (h2 : ¬ (48 ≤ c.toNat ∧ c.toNat ≤ 57)) : (97 ≤ (c.toNat ||| 32) ∧ (c.toNat ||| 32) ≤ 122) ∧ (c.toNat ||| 32) - 87 = k := by
  have key : ∀ n : Nat, n < 103 → 97 ≤ n → n ||| 32 = n := by decide
  unfold hexV at h
  rw [if_neg h2] at h
  split at h
  · rename_i h3
    cases h
    rw [key _ (by omega) h3.1]
    omega
  · cases h
def okD (c : UInt8) (y : Nat) : Prop := y < 16 ∧ ∀ p, hexV c = some p → p = y
theorem hexV_low {c : UInt8} (h2 : ¬ (48 ≤ c.toNat ∧ c.toNat ≤ 57)) (h : ¬ (97 ≤ (c.toNat ||| 32) ∧ (c.toNat ||| 32) ≤ 122) ∨ 16 ≤ (c.toNat ||| 32) - 87) : hexV c = none := by
  cases hk : hexV c with
  | none => rfl
  | some k =>
    have h1 := low_hex hk h2
    have h3 := (hexV_eq hk).1
    omega
theorem okD_dig {c : UInt8} (h : 48 ≤ c.toNat ∧ c.toNat ≤ 57) : okD c (c.toNat - 48) := ⟨by omega, fun p hp => by unfold hexV at hp; rw [if_pos h] at hp; exact (Option.some.inj hp).symm⟩
theorem okD_low {c : UInt8} (h2 : ¬ (48 ≤ c.toNat ∧ c.toNat ≤ 57)) (h : (c.toNat ||| 32) - 87 < 16) : okD c ((c.toNat ||| 32) - 87) := ⟨h, fun p hp => (low_hex hp h2).2.symm⟩
theorem byt_u8' {b : World} {S : List Nat} {cs : List Chunk} {w : World} (h : SH b S cs w) {g e : Nat} {L : List UInt8} (hc : Has cs (byt g e (EU8.all L))) {k : Nat} {a : UInt8} (hk : L[k]? = some a) : w.cell? ((⟨g, 0, none⟩ : Addr).add (k * 1)) = some (.int .u8 (a.toNat : Int)) := by
  rw [Addr.add_lit, Nat.zero_add]
  exact h.byt_cell hc (EU8.all_get (j := 0) hk rfl)
def IsPu (a b : UInt8) (v : Value) : Prop :=
  (∃ y z : Nat, y < 16 ∧ z < 16 ∧ (∀ p, hexV a = some p → p = y) ∧ (∀ p, hexV b = some p → p = z) ∧ v = .tuple #[.int .u64 ((16 * y + z : Nat) : Int), .nilIface]) ∨
  ((hexV a = none ∨ hexV b = none) ∧ v = .tuple #[.int .u64 0, .iface 114 (.int .i64 2)])
def stP (a b : UInt8) (i u : Nat) : Prop := (i = 0 ∧ u = 0) ∨ (i = 1 ∧ okD a u) ∨ (i = 2 ∧ ∃ y z, okD a y ∧ okD b z ∧ u = 16 * y + z)
theorem inPu_c (w : World) (a b : UInt8) : Calls Tryd.prog 70 [.string (bs [a, b]), .int .i64 16, .int .i64 8].toArray w (RetA (fun v _ => IsPu a b v) w) := by
  have ha8 := UInt8.toNat_lt a
  have hb8 := UInt8.toNat_lt b
  refine calls (n := 172) Tryd.func70 rfl Tryd.ntmps70 rfl ?_
  refine CW.sub (H' := SH w [] []) ?_ (Sub.refl _) (fun x hx => SH.start' _ _ hx)
  refine CW.seq (CW.region ?_)
  refine RW.assign rfl rfl ?_
  refine RW.assign rfl rfl ?_
  refine RW.nil (EX.seq (CW.seq (CW.seq ?_)))
  -- mq: region
  refine CW.region ?_
  refine RW.move rfl rfl ?_
  refine RW.eqlS rfl rfl rfl ?_
  refine RW.nil (EX.seq ?_)
  -- mq: cond
  refine CW.condF rfl ((decide_eq_false (by simp))) ?_
  refine CW.skip (EX.seq (CW.seq (CW.region ?_)))
  refine RW.move rfl rfl ?_
  refine RW.eqlI rfl rfl rfl ?_
  refine RW.assign rfl rfl ?_
  refine RW.nil (EX.seq (CW.seq (CW.region ?_)))
  refine RW.move rfl rfl ?_
  refine RW.assign rfl rfl ?_
  refine RW.nil (EX.seq (CW.seq (CW.block (CW.seq (CW.region ?_)))))
  refine RW.move rfl rfl ?_
  refine RW.leq rfl rfl rfl ?_
  refine RW.move rfl rfl ?_
  refine RW.guardT rfl rfl rfl ?_
  refine RW.move rfl rfl ?_
  refine RW.guardT rfl rfl rfl ?_
  refine RW.leq rfl rfl rfl ?_
  refine RW.pickB rfl rfl rfl rfl ?_
  refine RW.assign rfl rfl ?_
  refine RW.nil (EX.seq ?_)
  -- mq: cond
  refine CW.condT rfl (rfl) ?_
  refine CW.skip (EX.bkN (EX.seq (CW.seq (CW.seq (CW.region ?_)))))
  refine RW.move rfl rfl ?_
  refine RW.eqlI rfl rfl rfl ?_
  refine RW.nil (EX.seq ?_)
  -- mq: cond
  refine CW.condF rfl (rfl) ?_
  refine CW.seq (CW.region ?_)
  refine RW.move rfl rfl ?_
  refine RW.lss rfl rfl rfl ?_
  refine RW.move rfl rfl ?_
  refine RW.guardT rfl rfl rfl ?_
  refine RW.move rfl rfl ?_
  refine RW.guardT rfl rfl rfl ?_
  refine RW.gtr rfl rfl rfl ?_
  refine RW.pickC rfl rfl rfl rfl ?_
  refine RW.nil (EX.seq ?_)
  -- mq: cond
  refine CW.condF rfl (rfl) ?_
  refine CW.skip (EX.seq (CW.seq (CW.region ?_)))
  refine RW.assign rfl rfl ?_
  refine RW.nil (EX.seq (CW.seq (CW.seq (CW.region ?_))))
  refine RW.move rfl rfl ?_
  refine RW.nil (EX.seq (CW.block (CW.seq (CW.region ?_))))
  refine RW.eqlI rfl rfl rfl ?_
  refine RW.assign rfl rfl ?_
  refine RW.nil (EX.seq ?_)
  -- mq: cond
  refine CW.condF rfl (rfl) ?_
  refine CW.seq (CW.region ?_)
  refine RW.eqlI rfl rfl rfl ?_
  refine RW.assign rfl rfl ?_
  refine RW.nil (EX.seq ?_)
  -- mq: cond
  refine CW.condT rfl (rfl) ?_
  refine CW.region ?_
  refine RW.assign rfl rfl ?_
  refine RW.nil (EX.bkN (EX.seq (CW.seq (CW.region ?_))))
  refine RW.move rfl rfl ?_
  refine RW.convI (r := 8) rfl rfl Tryd.underlying3 Tryd.underlying87 rfl ?_
  refine RW.shlN (r := 256) rfl rfl rfl (by decide) rfl ?_
  refine RW.sub_ (r := 255) rfl rfl rfl rfl ?_
  refine RW.assign rfl rfl ?_
  refine RW.nil (EX.seq (CW.seq (CW.region ?_)))
  refine RW.assign rfl rfl ?_
  refine RW.nil (EX.seq (CW.seq (CW.region ?_)))
  refine RW.assign rfl rfl ?_
  refine RW.nil (EX.seq (CW.seq (CW.seq ?_)))
  -- mq: region
  refine CW.region ?_
  refine RW.move rfl rfl ?_
  -- mq: at
  refine RW.strBytes (s := [a, b]) Tryd.underlying9 Tryd.underlying53 Tryd.underlying5 rfl rfl (by show 2 ≤ 1000000; decide) (fun gb cb hgb hfb hcb1 hcb2 => ?_)
  refine RW.lenSl Tryd.underlying53 rfl rfl ?_
  refine RW.move rfl rfl ?_
  refine RW.nil (EX.seq (CW.block ?_))
  -- mq: loop
  refine CW.loop (ι := Nat × Nat) (fun t => [(1, .int .i64 16), (8, .bool false), (10, .int .u64 1152921504606846976), (11, .int .u64 255), (12, .bool false), (13, .int .u64 (t.2 : Int)), (99, .slice (some ⟨gb, 0, none⟩) 2 cb), (100, .int .i64 2), (101, .int .i64 (t.1 : Int))]) (fun _ => SH w [] [byt gb 5 (EU8.all [a, b])]) (fun t => stP a b t.1 t.2) (fun t => 2 - t.1) ?_ ?_
  · exact fun w' hw' => ⟨(0, 0), .inl ⟨rfl, rfl⟩, (by repeat (first | exact Sub.nil | refine Sub.cons (by rfl) ?_)), hw'⟩
  · rintro ⟨i, u⟩ hst
    dsimp only at hst ⊢
    rcases hst with ⟨rfl, rfl⟩ | ⟨rfl, hu⟩ | ⟨rfl, y, z, hy, hz, rfl⟩
    · skip
      have hl8 : a.toNat ||| 32 < 256 := Nat.or_lt_two_pow (n := 8) (by omega) (by decide)
      refine CW.seq (CW.region ?_)
      refine RW.lss rfl rfl rfl ?_
      refine RW.nil (EX.seq (CW.seq ?_))
      -- mq: cond
      refine CW.condT rfl ((decide_eq_true (by omega))) ?_
      refine CW.skip (EX.seq (CW.seq (CW.block (CW.seq (CW.region ?_)))))
      refine RW.ixAddr (q := 0) sl53 rfl rfl rfl (by first | rfl | assumption) (by omega) (by omega) ?_
      refine RW.load1 sc5 rfl rfl (fun w' hw' => byt_u8' hw' Has.head (k := 0) (a := a) rfl) ?_
      refine RW.assign rfl rfl ?_
      refine RW.nil (EX.seq (CW.seq (CW.region ?_)))
      refine RW.assign rfl rfl ?_
      refine RW.nil (EX.seq (CW.seq (CW.block (CW.seq ?_))))
      -- mq: region
      refine CW.join ([(1, .int .i64 16), (8, .bool false), (10, .int .u64 1152921504606846976), (11, .int .u64 255), (12, .bool false), (13, .int .u64 ((0 : Nat) : Int)), (99, .slice (some ⟨gb, 0, none⟩) 2 cb), (100, .int .i64 2), (101, .int .i64 ((0 : Nat) : Int)), (15, .int .u8 (a.toNat : Int)), (106, .bool false)]) (SH w [] [byt gb 5 (EU8.all [a, b])]) ?_ ?_
      · skip
        refine CW.region ?_
        refine RW.move rfl rfl ?_
        refine RW.eqlI rfl rfl rfl ?_
        refine RW.move rfl rfl ?_
        -- mq: guard slot 109
        refine RW.casesB 109 rfl (fun h1 => ?_) (fun h1 => ?_)
        · skip
          have h1p := of_decide_eq_true h1
          refine RW.guardT rfl rfl h1 ?_
          refine RW.move rfl rfl ?_
          refine RW.pickB rfl rfl h1 rfl ?_
          refine RW.assign rfl rfl ?_
          refine RW.nil ?_
          -- mq: joinend
          exact EX.jn (by repeat (first | exact Sub.nil | refine Sub.cons (by rfl) ?_)) (fun _ h => h)
        · skip
          have h1p := of_decide_eq_false h1
          refine RW.guardF rfl rfl rfl h1 ?_
          refine RW.pickC rfl rfl h1 rfl ?_
          refine RW.assign rfl rfl ?_
          refine RW.nil ?_
          -- mq: joinend
          exact EX.jn (by repeat (first | exact Sub.nil | refine Sub.cons (by rfl) ?_)) (fun _ h => h)
      · skip
        refine EX.seq ?_
        -- mq: cond
        refine CW.condF rfl (rfl) ?_
        refine CW.seq (CW.region ?_)
        refine RW.move rfl rfl ?_
        refine RW.leq rfl rfl rfl ?_
        refine RW.move rfl rfl ?_
        -- mq: guard slot 115
        refine RW.casesB 115 rfl (fun h2 => ?_) (fun h2 => ?_)
        · skip
          have h2p := of_decide_eq_true h2
          refine RW.guardT rfl rfl h2 ?_
          refine RW.move rfl rfl ?_
          refine RW.guardT rfl rfl h2 ?_
          refine RW.leq rfl rfl rfl ?_
          refine RW.pickB rfl rfl h2 rfl ?_
          refine RW.assign rfl rfl ?_
          refine RW.nil (EX.seq ?_)
          -- mq: cond
          first | refine CW.condD rfl (fun h3 => ?_) (fun h3 => ?_) | refine CW.cond rfl (fun h3 => ?_) (fun h3 => ?_)
          · skip
            refine CW.region ?_
            refine RW.move rfl rfl ?_
            refine RW.sub_ (r := ((a.toNat - 48 : Nat) : Int)) rfl rfl rfl (by rw [IntKind.wrap_u8]; omega) ?_
            refine RW.assign rfl rfl ?_
            refine RW.nil (EX.bkN (EX.seq (CW.seq (CW.seq ?_))))
            -- mq: region
            refine CW.region ?_
            refine RW.move rfl rfl ?_
            refine RW.move rfl rfl ?_
            refine RW.convI (r := 16) rfl rfl Tryd.underlying3 Tryd.underlying5 rfl ?_
            refine RW.geq rfl rfl rfl ?_
            refine RW.nil (EX.seq ?_)
            -- mq: cond
            refine CW.condF rfl ((decide_eq_false (by omega))) ?_
            refine CW.skip (EX.seq (CW.seq (CW.seq (CW.region ?_))))
            refine RW.move rfl rfl ?_
            refine RW.move rfl rfl ?_
            refine RW.geq rfl rfl rfl ?_
            refine RW.nil (EX.seq ?_)
            -- mq: cond
            refine CW.condF rfl ((decide_eq_false (by omega))) ?_
            refine CW.skip (EX.seq (CW.seq (CW.region ?_)))
            refine RW.move rfl rfl ?_
            refine RW.move rfl rfl ?_
            refine RW.convI (r := 16) rfl rfl Tryd.underlying3 Tryd.underlying22 rfl ?_
            refine RW.mul (r := (((0 : Nat) * 16 : Nat) : Int)) rfl rfl rfl (by rw [IntKind.wrap_u64]; omega) ?_
            refine RW.assign rfl rfl ?_
            refine RW.nil (EX.seq (CW.seq ?_))
            -- mq: region
            refine CW.region ?_
            refine RW.move rfl rfl ?_
            refine RW.move rfl rfl ?_
            refine RW.convI (r := ((a.toNat - 48 : Nat) : Int)) rfl rfl Tryd.underlying5 Tryd.underlying22 (by rw [IntKind.wrap_u64]; omega) ?_
            refine RW.add (r := (((0 : Nat) * 16 + (a.toNat - 48) : Nat) : Int)) rfl rfl rfl (by rw [IntKind.wrap_u64]; omega) ?_
            refine RW.assign rfl rfl ?_
            refine RW.nil (EX.seq (CW.seq (CW.seq (CW.region ?_))))
            refine RW.move rfl rfl ?_
            refine RW.move rfl rfl ?_
            refine RW.lss rfl rfl rfl ?_
            refine RW.move rfl rfl ?_
            -- mq: guard slot 155
            refine RW.guardT rfl rfl (decide_eq_false (by omega)) ?_
            refine RW.move rfl rfl ?_
            refine RW.guardT rfl rfl (decide_eq_false (by omega)) ?_
            refine RW.move rfl rfl ?_
            refine RW.guardT rfl rfl (decide_eq_false (by omega)) ?_
            refine RW.gtr rfl rfl rfl ?_
            refine RW.pickC rfl rfl (decide_eq_false (by omega)) rfl ?_
            refine RW.nil (EX.seq ?_)
            -- mq: cond
            refine CW.condF rfl ((decide_eq_false (by omega))) ?_
            refine CW.skip (EX.seq (CW.region ?_))
            refine RW.move rfl rfl ?_
            refine RW.assign rfl rfl ?_
            refine RW.nil (EX.bkN (EX.seq (CW.region ?_)))
            refine RW.add rfl rfl rfl (wrap64 (by omega) (by omega)) ?_
            refine RW.move rfl rfl ?_
            refine RW.nil ?_
            -- mq: loopend
            exact EX.lpN (1, 0 * 16 + (a.toNat - 48)) (.inr (.inl ⟨rfl, by rw [Nat.zero_mul, Nat.zero_add]; exact (okD_dig (by omega))⟩)) (by dsimp only; omega) (by repeat (first | exact Sub.nil | refine Sub.cons (by rfl) ?_)) (fun w' hw' => hw')
          · skip
            refine CW.seq (CW.region ?_)
            refine RW.move rfl rfl ?_
            refine RW.call rfl caLow rfl (fun w' _ => low_c w' a) ?_
            refine RW.leq rfl rfl rfl ?_
            refine RW.move rfl rfl ?_
            -- mq: guard slot 125
            refine RW.casesB 125 rfl (fun h4 => ?_) (fun h4 => ?_)
            · skip
              have h4p := of_decide_eq_true h4
              refine RW.guardT rfl rfl h4 ?_
              refine RW.move rfl rfl ?_
              refine RW.guardT rfl rfl h4 ?_
              refine RW.call rfl caLow rfl (fun w' _ => low_c w' a) ?_
              refine RW.guardT rfl rfl h4 ?_
              refine RW.leq rfl rfl rfl ?_
              refine RW.pickB rfl rfl h4 rfl ?_
              refine RW.assign rfl rfl ?_
              refine RW.nil (EX.seq ?_)
              -- mq: cond
              first | refine CW.condD rfl (fun h5 => ?_) (fun h5 => ?_) | refine CW.cond rfl (fun h5 => ?_) (fun h5 => ?_)
              · skip
                refine CW.region ?_
                refine RW.move rfl rfl ?_
                refine RW.call rfl caLow rfl (fun w' _ => low_c w' a) ?_
                refine RW.sub_ (r := (((a.toNat ||| 32) - 97 : Nat) : Int)) rfl rfl rfl (by rw [IntKind.wrap_u8]; omega) ?_
                refine RW.add (r := (((a.toNat ||| 32) - 87 : Nat) : Int)) rfl rfl rfl (by rw [IntKind.wrap_u8]; omega) ?_
                refine RW.assign rfl rfl ?_
                refine RW.nil (EX.bkN (EX.seq (CW.seq (CW.seq ?_))))
                -- mq: region
                refine CW.region ?_
                refine RW.move rfl rfl ?_
                refine RW.move rfl rfl ?_
                refine RW.convI (r := 16) rfl rfl Tryd.underlying3 Tryd.underlying5 rfl ?_
                refine RW.geq rfl rfl rfl ?_
                refine RW.nil (EX.seq ?_)
                -- mq: cond
                first | refine CW.condD rfl (fun h7 => ?_) (fun h7 => ?_) | refine CW.cond rfl (fun h7 => ?_) (fun h7 => ?_)
                · skip
                  refine CW.seq (CW.region ?_)
                  refine RW.mkI (by kernel_rfl) rfl rfl ?_
                  refine RW.assign rfl rfl ?_
                  refine RW.assign rfl rfl ?_
                  refine RW.nil (EX.seq (CW.ret (EX.seqR (EX.bkR (EX.seqR (EX.lpR (EX.bkR (EX.seqR ?_))))))))
                  refine EX.fin2 Tryd.results70 rfl rfl (fun wz hw => ?_)
                  -- mq: done
                  exact ⟨_, rfl, hw.ext, .inr ⟨.inl (hexV_low (by omega) (.inr (by omega))), rfl⟩⟩
                · skip
                  refine CW.skip (EX.seq (CW.seq (CW.seq (CW.region ?_))))
                  refine RW.move rfl rfl ?_
                  refine RW.move rfl rfl ?_
                  refine RW.geq rfl rfl rfl ?_
                  refine RW.nil (EX.seq ?_)
                  -- mq: cond
                  refine CW.condF rfl ((decide_eq_false (by omega))) ?_
                  refine CW.skip (EX.seq (CW.seq (CW.region ?_)))
                  refine RW.move rfl rfl ?_
                  refine RW.move rfl rfl ?_
                  refine RW.convI (r := 16) rfl rfl Tryd.underlying3 Tryd.underlying22 rfl ?_
                  refine RW.mul (r := (((0 : Nat) * 16 : Nat) : Int)) rfl rfl rfl (by rw [IntKind.wrap_u64]; omega) ?_
                  refine RW.assign rfl rfl ?_
                  refine RW.nil (EX.seq (CW.seq ?_))
                  -- mq: region
                  refine CW.region ?_
                  refine RW.move rfl rfl ?_
                  refine RW.move rfl rfl ?_
                  refine RW.convI (r := (((a.toNat ||| 32) - 87 : Nat) : Int)) rfl rfl Tryd.underlying5 Tryd.underlying22 (by rw [IntKind.wrap_u64]; omega) ?_
                  refine RW.add (r := (((0 : Nat) * 16 + ((a.toNat ||| 32) - 87) : Nat) : Int)) rfl rfl rfl (by rw [IntKind.wrap_u64]; omega) ?_
                  refine RW.assign rfl rfl ?_
                  refine RW.nil (EX.seq (CW.seq (CW.seq (CW.region ?_))))
                  refine RW.move rfl rfl ?_
                  refine RW.move rfl rfl ?_
                  refine RW.lss rfl rfl rfl ?_
                  refine RW.move rfl rfl ?_
                  -- mq: guard slot 155
                  refine RW.guardT rfl rfl (decide_eq_false (by omega)) ?_
                  refine RW.move rfl rfl ?_
                  refine RW.guardT rfl rfl (decide_eq_false (by omega)) ?_
                  refine RW.move rfl rfl ?_
                  refine RW.guardT rfl rfl (decide_eq_false (by omega)) ?_
                  refine RW.gtr rfl rfl rfl ?_
                  refine RW.pickC rfl rfl (decide_eq_false (by omega)) rfl ?_
                  refine RW.nil (EX.seq ?_)
                  -- mq: cond
                  refine CW.condF rfl ((decide_eq_false (by omega))) ?_
                  refine CW.skip (EX.seq (CW.region ?_))
                  refine RW.move rfl rfl ?_
                  refine RW.assign rfl rfl ?_
                  refine RW.nil (EX.bkN (EX.seq (CW.region ?_)))
                  refine RW.add rfl rfl rfl (wrap64 (by omega) (by omega)) ?_
                  refine RW.move rfl rfl ?_
                  refine RW.nil ?_
                  -- mq: loopend
                  exact EX.lpN (1, 0 * 16 + ((a.toNat ||| 32) - 87)) (.inr (.inl ⟨rfl, by rw [Nat.zero_mul, Nat.zero_add]; exact (okD_low (by omega) (by omega))⟩)) (by dsimp only; omega) (by repeat (first | exact Sub.nil | refine Sub.cons (by rfl) ?_)) (fun w' hw' => hw')
              · skip
                refine CW.seq (CW.region ?_)
                refine RW.mkI (by kernel_rfl) rfl rfl ?_
                refine RW.assign rfl rfl ?_
                refine RW.assign rfl rfl ?_
                refine RW.nil (EX.seq (CW.ret (EX.bkR (EX.seqR (EX.bkR (EX.seqR (EX.lpR (EX.bkR (EX.seqR ?_)))))))))
                refine EX.fin2 Tryd.results70 rfl rfl (fun wz hw => ?_)
                -- mq: done
                exact ⟨_, rfl, hw.ext, .inr ⟨.inl (hexV_low (by omega) (.inl (by omega))), rfl⟩⟩
            · skip
              have h4p := of_decide_eq_false h4
              refine RW.guardF rfl rfl rfl h4 ?_
              refine RW.guardF rfl rfl rfl h4 ?_
              refine RW.guardF rfl rfl rfl h4 ?_
              refine RW.pickC rfl rfl h4 rfl ?_
              refine RW.assign rfl rfl ?_
              refine RW.nil (EX.seq ?_)
              -- mq: cond
              refine CW.condF rfl (rfl) ?_
              refine CW.seq (CW.region ?_)
              refine RW.mkI (by kernel_rfl) rfl rfl ?_
              refine RW.assign rfl rfl ?_
              refine RW.assign rfl rfl ?_
              refine RW.nil (EX.seq (CW.ret (EX.bkR (EX.seqR (EX.bkR (EX.seqR (EX.lpR (EX.bkR (EX.seqR ?_)))))))))
              refine EX.fin2 Tryd.results70 rfl rfl (fun wz hw => ?_)
              -- mq: done
              exact ⟨_, rfl, hw.ext, .inr ⟨.inl (hexV_low (by omega) (.inl (by omega))), rfl⟩⟩
        · skip
          have h2p := of_decide_eq_false h2
          refine RW.guardF rfl rfl rfl h2 ?_
          refine RW.guardF rfl rfl rfl h2 ?_
          refine RW.pickC rfl rfl h2 rfl ?_
          refine RW.assign rfl rfl ?_
          refine RW.nil (EX.seq ?_)
          -- mq: cond
          refine CW.condF rfl (rfl) ?_
          refine CW.seq (CW.region ?_)
          refine RW.move rfl rfl ?_
          refine RW.call rfl caLow rfl (fun w' _ => low_c w' a) ?_
          refine RW.leq rfl rfl rfl ?_
          refine RW.move rfl rfl ?_
          -- mq: guard slot 125
          refine RW.casesB 125 rfl (fun h4 => ?_) (fun h4 => ?_)
          · skip
            have h4p := of_decide_eq_true h4
            refine RW.guardT rfl rfl h4 ?_
            refine RW.move rfl rfl ?_
            refine RW.guardT rfl rfl h4 ?_
            refine RW.call rfl caLow rfl (fun w' _ => low_c w' a) ?_
            refine RW.guardT rfl rfl h4 ?_
            refine RW.leq rfl rfl rfl ?_
            refine RW.pickB rfl rfl h4 rfl ?_
            refine RW.assign rfl rfl ?_
            refine RW.nil (EX.seq ?_)
            -- mq: cond
            first | refine CW.condD rfl (fun h5 => ?_) (fun h5 => ?_) | refine CW.cond rfl (fun h5 => ?_) (fun h5 => ?_)
            · skip
              refine CW.region ?_
              refine RW.move rfl rfl ?_
              refine RW.call rfl caLow rfl (fun w' _ => low_c w' a) ?_
              refine RW.sub_ (r := (((a.toNat ||| 32) - 97 : Nat) : Int)) rfl rfl rfl (by rw [IntKind.wrap_u8]; omega) ?_
              refine RW.add (r := (((a.toNat ||| 32) - 87 : Nat) : Int)) rfl rfl rfl (by rw [IntKind.wrap_u8]; omega) ?_
              refine RW.assign rfl rfl ?_
              refine RW.nil (EX.bkN (EX.seq (CW.seq (CW.seq ?_))))
              -- mq: region
              refine CW.region ?_
              refine RW.move rfl rfl ?_
              refine RW.move rfl rfl ?_
              refine RW.convI (r := 16) rfl rfl Tryd.underlying3 Tryd.underlying5 rfl ?_
              refine RW.geq rfl rfl rfl ?_
              refine RW.nil (EX.seq ?_)
              -- mq: cond
              first | refine CW.condD rfl (fun h7 => ?_) (fun h7 => ?_) | refine CW.cond rfl (fun h7 => ?_) (fun h7 => ?_)
              · skip
                refine CW.seq (CW.region ?_)
                refine RW.mkI (by kernel_rfl) rfl rfl ?_
                refine RW.assign rfl rfl ?_
                refine RW.assign rfl rfl ?_
                refine RW.nil (EX.seq (CW.ret (EX.seqR (EX.bkR (EX.seqR (EX.lpR (EX.bkR (EX.seqR ?_))))))))
                refine EX.fin2 Tryd.results70 rfl rfl (fun wz hw => ?_)
                -- mq: done
                exact ⟨_, rfl, hw.ext, .inr ⟨.inl (hexV_low (by omega) (.inr (by omega))), rfl⟩⟩
              · skip
                refine CW.skip (EX.seq (CW.seq (CW.seq (CW.region ?_))))
                refine RW.move rfl rfl ?_
                refine RW.move rfl rfl ?_
                refine RW.geq rfl rfl rfl ?_
                refine RW.nil (EX.seq ?_)
                -- mq: cond
                refine CW.condF rfl ((decide_eq_false (by omega))) ?_
                refine CW.skip (EX.seq (CW.seq (CW.region ?_)))
                refine RW.move rfl rfl ?_
                refine RW.move rfl rfl ?_
                refine RW.convI (r := 16) rfl rfl Tryd.underlying3 Tryd.underlying22 rfl ?_
                refine RW.mul (r := (((0 : Nat) * 16 : Nat) : Int)) rfl rfl rfl (by rw [IntKind.wrap_u64]; omega) ?_
                refine RW.assign rfl rfl ?_
                refine RW.nil (EX.seq (CW.seq ?_))
                -- mq: region
                refine CW.region ?_
                refine RW.move rfl rfl ?_
                refine RW.move rfl rfl ?_
                refine RW.convI (r := (((a.toNat ||| 32) - 87 : Nat) : Int)) rfl rfl Tryd.underlying5 Tryd.underlying22 (by rw [IntKind.wrap_u64]; omega) ?_
                refine RW.add (r := (((0 : Nat) * 16 + ((a.toNat ||| 32) - 87) : Nat) : Int)) rfl rfl rfl (by rw [IntKind.wrap_u64]; omega) ?_
                refine RW.assign rfl rfl ?_
                refine RW.nil (EX.seq (CW.seq (CW.seq (CW.region ?_))))
                refine RW.move rfl rfl ?_
                refine RW.move rfl rfl ?_
                refine RW.lss rfl rfl rfl ?_
                refine RW.move rfl rfl ?_
                -- mq: guard slot 155
                refine RW.guardT rfl rfl (decide_eq_false (by omega)) ?_
                refine RW.move rfl rfl ?_
                refine RW.guardT rfl rfl (decide_eq_false (by omega)) ?_
                refine RW.move rfl rfl ?_
                refine RW.guardT rfl rfl (decide_eq_false (by omega)) ?_
                refine RW.gtr rfl rfl rfl ?_
                refine RW.pickC rfl rfl (decide_eq_false (by omega)) rfl ?_
                refine RW.nil (EX.seq ?_)
                -- mq: cond
                refine CW.condF rfl ((decide_eq_false (by omega))) ?_
                refine CW.skip (EX.seq (CW.region ?_))
                refine RW.move rfl rfl ?_
                refine RW.assign rfl rfl ?_
                refine RW.nil (EX.bkN (EX.seq (CW.region ?_)))
                refine RW.add rfl rfl rfl (wrap64 (by omega) (by omega)) ?_
                refine RW.move rfl rfl ?_
                refine RW.nil ?_
                -- mq: loopend
                exact EX.lpN (1, 0 * 16 + ((a.toNat ||| 32) - 87)) (.inr (.inl ⟨rfl, by rw [Nat.zero_mul, Nat.zero_add]; exact (okD_low (by omega) (by omega))⟩)) (by dsimp only; omega) (by repeat (first | exact Sub.nil | refine Sub.cons (by rfl) ?_)) (fun w' hw' => hw')
            · skip
              refine CW.seq (CW.region ?_)
              refine RW.mkI (by kernel_rfl) rfl rfl ?_
              refine RW.assign rfl rfl ?_
              refine RW.assign rfl rfl ?_
              refine RW.nil (EX.seq (CW.ret (EX.bkR (EX.seqR (EX.bkR (EX.seqR (EX.lpR (EX.bkR (EX.seqR ?_)))))))))
              refine EX.fin2 Tryd.results70 rfl rfl (fun wz hw => ?_)
              -- mq: done
              exact ⟨_, rfl, hw.ext, .inr ⟨.inl (hexV_low (by omega) (.inl (by omega))), rfl⟩⟩
          · skip
            have h4p := of_decide_eq_false h4
            refine RW.guardF rfl rfl rfl h4 ?_
            refine RW.guardF rfl rfl rfl h4 ?_
            refine RW.guardF rfl rfl rfl h4 ?_
            refine RW.pickC rfl rfl h4 rfl ?_
            refine RW.assign rfl rfl ?_
            refine RW.nil (EX.seq ?_)
            -- mq: cond
            refine CW.condF rfl (rfl) ?_
            refine CW.seq (CW.region ?_)
            refine RW.mkI (by kernel_rfl) rfl rfl ?_
            refine RW.assign rfl rfl ?_
            refine RW.assign rfl rfl ?_
            refine RW.nil (EX.seq (CW.ret (EX.bkR (EX.seqR (EX.bkR (EX.seqR (EX.lpR (EX.bkR (EX.seqR ?_)))))))))
            refine EX.fin2 Tryd.results70 rfl rfl (fun wz hw => ?_)
            -- mq: done
            exact ⟨_, rfl, hw.ext, .inr ⟨.inl (hexV_low (by omega) (.inl (by omega))), rfl⟩⟩
    · skip
      have hu16 := hu.1
      have hl8 : b.toNat ||| 32 < 256 := Nat.or_lt_two_pow (n := 8) (by omega) (by decide)
      refine CW.seq (CW.region ?_)
      refine RW.lss rfl rfl rfl ?_
      refine RW.nil (EX.seq (CW.seq ?_))
      -- mq: cond
      refine CW.condT rfl ((decide_eq_true (by omega))) ?_
      refine CW.skip (EX.seq (CW.seq (CW.block (CW.seq (CW.region ?_)))))
      refine RW.ixAddr (q := 1) sl53 rfl rfl rfl (by first | rfl | assumption) (by omega) (by omega) ?_
      refine RW.load1 sc5 rfl rfl (fun w' hw' => byt_u8' hw' Has.head (k := 1) (a := b) rfl) ?_
      refine RW.assign rfl rfl ?_
      refine RW.nil (EX.seq (CW.seq (CW.region ?_)))
      refine RW.assign rfl rfl ?_
      refine RW.nil (EX.seq (CW.seq (CW.block (CW.seq ?_))))
      -- mq: region
      refine CW.join ([(1, .int .i64 16), (8, .bool false), (10, .int .u64 1152921504606846976), (11, .int .u64 255), (12, .bool false), (13, .int .u64 ((u : Nat) : Int)), (99, .slice (some ⟨gb, 0, none⟩) 2 cb), (100, .int .i64 2), (101, .int .i64 ((1 : Nat) : Int)), (15, .int .u8 (b.toNat : Int)), (106, .bool false)]) (SH w [] [byt gb 5 (EU8.all [a, b])]) ?_ ?_
      · skip
        refine CW.region ?_
        refine RW.move rfl rfl ?_
        refine RW.eqlI rfl rfl rfl ?_
        refine RW.move rfl rfl ?_
        -- mq: guard slot 109
        refine RW.casesB 109 rfl (fun h1 => ?_) (fun h1 => ?_)
        · skip
          have h1p := of_decide_eq_true h1
          refine RW.guardT rfl rfl h1 ?_
          refine RW.move rfl rfl ?_
          refine RW.pickB rfl rfl h1 rfl ?_
          refine RW.assign rfl rfl ?_
          refine RW.nil ?_
          -- mq: joinend
          exact EX.jn (by repeat (first | exact Sub.nil | refine Sub.cons (by rfl) ?_)) (fun _ h => h)
        · skip
          have h1p := of_decide_eq_false h1
          refine RW.guardF rfl rfl rfl h1 ?_
          refine RW.pickC rfl rfl h1 rfl ?_
          refine RW.assign rfl rfl ?_
          refine RW.nil ?_
          -- mq: joinend
          exact EX.jn (by repeat (first | exact Sub.nil | refine Sub.cons (by rfl) ?_)) (fun _ h => h)
      · skip
        refine EX.seq ?_
        -- mq: cond
        refine CW.condF rfl (rfl) ?_
        refine CW.seq (CW.region ?_)
        refine RW.move rfl rfl ?_
        refine RW.leq rfl rfl rfl ?_
        refine RW.move rfl rfl ?_
        -- mq: guard slot 115
        refine RW.casesB 115 rfl (fun h2 => ?_) (fun h2 => ?_)
        · skip
          have h2p := of_decide_eq_true h2
          refine RW.guardT rfl rfl h2 ?_
          refine RW.move rfl rfl ?_
          refine RW.guardT rfl rfl h2 ?_
          refine RW.leq rfl rfl rfl ?_
          refine RW.pickB rfl rfl h2 rfl ?_
          refine RW.assign rfl rfl ?_
          refine RW.nil (EX.seq ?_)
          -- mq: cond
          first | refine CW.condD rfl (fun h3 => ?_) (fun h3 => ?_) | refine CW.cond rfl (fun h3 => ?_) (fun h3 => ?_)
          · skip
            refine CW.region ?_
            refine RW.move rfl rfl ?_
            refine RW.sub_ (r := ((b.toNat - 48 : Nat) : Int)) rfl rfl rfl (by rw [IntKind.wrap_u8]; omega) ?_
            refine RW.assign rfl rfl ?_
            refine RW.nil (EX.bkN (EX.seq (CW.seq (CW.seq ?_))))
            -- mq: region
            refine CW.region ?_
            refine RW.move rfl rfl ?_
            refine RW.move rfl rfl ?_
            refine RW.convI (r := 16) rfl rfl Tryd.underlying3 Tryd.underlying5 rfl ?_
            refine RW.geq rfl rfl rfl ?_
            refine RW.nil (EX.seq ?_)
            -- mq: cond
            refine CW.condF rfl ((decide_eq_false (by omega))) ?_
            refine CW.skip (EX.seq (CW.seq (CW.seq (CW.region ?_))))
            refine RW.move rfl rfl ?_
            refine RW.move rfl rfl ?_
            refine RW.geq rfl rfl rfl ?_
            refine RW.nil (EX.seq ?_)
            -- mq: cond
            refine CW.condF rfl ((decide_eq_false (by omega))) ?_
            refine CW.skip (EX.seq (CW.seq (CW.region ?_)))
            refine RW.move rfl rfl ?_
            refine RW.move rfl rfl ?_
            refine RW.convI (r := 16) rfl rfl Tryd.underlying3 Tryd.underlying22 rfl ?_
            refine RW.mul (r := ((u * 16 : Nat) : Int)) rfl rfl rfl (by rw [IntKind.wrap_u64]; omega) ?_
            refine RW.assign rfl rfl ?_
            refine RW.nil (EX.seq (CW.seq ?_))
            -- mq: region
            refine CW.region ?_
            refine RW.move rfl rfl ?_
            refine RW.move rfl rfl ?_
            refine RW.convI (r := ((b.toNat - 48 : Nat) : Int)) rfl rfl Tryd.underlying5 Tryd.underlying22 (by rw [IntKind.wrap_u64]; omega) ?_
            refine RW.add (r := ((u * 16 + (b.toNat - 48) : Nat) : Int)) rfl rfl rfl (by rw [IntKind.wrap_u64]; omega) ?_
            refine RW.assign rfl rfl ?_
            refine RW.nil (EX.seq (CW.seq (CW.seq (CW.region ?_))))
            refine RW.move rfl rfl ?_
            refine RW.move rfl rfl ?_
            refine RW.lss rfl rfl rfl ?_
            refine RW.move rfl rfl ?_
            -- mq: guard slot 155
            refine RW.guardT rfl rfl (decide_eq_false (by omega)) ?_
            refine RW.move rfl rfl ?_
            refine RW.guardT rfl rfl (decide_eq_false (by omega)) ?_
            refine RW.move rfl rfl ?_
            refine RW.guardT rfl rfl (decide_eq_false (by omega)) ?_
            refine RW.gtr rfl rfl rfl ?_
            refine RW.pickC rfl rfl (decide_eq_false (by omega)) rfl ?_
            refine RW.nil (EX.seq ?_)
            -- mq: cond
            refine CW.condF rfl ((decide_eq_false (by omega))) ?_
            refine CW.skip (EX.seq (CW.region ?_))
            refine RW.move rfl rfl ?_
            refine RW.assign rfl rfl ?_
            refine RW.nil (EX.bkN (EX.seq (CW.region ?_)))
            refine RW.add rfl rfl rfl (wrap64 (by omega) (by omega)) ?_
            refine RW.move rfl rfl ?_
            refine RW.nil ?_
            -- mq: loopend
            exact EX.lpN (2, u * 16 + (b.toNat - 48)) (.inr (.inr ⟨rfl, _, _, hu, (okD_dig (by omega)), by dsimp only; omega⟩)) (by dsimp only; omega) (by repeat (first | exact Sub.nil | refine Sub.cons (by rfl) ?_)) (fun w' hw' => hw')
          · skip
            refine CW.seq (CW.region ?_)
            refine RW.move rfl rfl ?_
            refine RW.call rfl caLow rfl (fun w' _ => low_c w' b) ?_
            refine RW.leq rfl rfl rfl ?_
            refine RW.move rfl rfl ?_
            -- mq: guard slot 125
            refine RW.casesB 125 rfl (fun h4 => ?_) (fun h4 => ?_)
            · skip
              have h4p := of_decide_eq_true h4
              refine RW.guardT rfl rfl h4 ?_
              refine RW.move rfl rfl ?_
              refine RW.guardT rfl rfl h4 ?_
              refine RW.call rfl caLow rfl (fun w' _ => low_c w' b) ?_
              refine RW.guardT rfl rfl h4 ?_
              refine RW.leq rfl rfl rfl ?_
              refine RW.pickB rfl rfl h4 rfl ?_
              refine RW.assign rfl rfl ?_
              refine RW.nil (EX.seq ?_)
              -- mq: cond
              first | refine CW.condD rfl (fun h5 => ?_) (fun h5 => ?_) | refine CW.cond rfl (fun h5 => ?_) (fun h5 => ?_)
              · skip
                refine CW.region ?_
                refine RW.move rfl rfl ?_
                refine RW.call rfl caLow rfl (fun w' _ => low_c w' b) ?_
                refine RW.sub_ (r := (((b.toNat ||| 32) - 97 : Nat) : Int)) rfl rfl rfl (by rw [IntKind.wrap_u8]; omega) ?_
                refine RW.add (r := (((b.toNat ||| 32) - 87 : Nat) : Int)) rfl rfl rfl (by rw [IntKind.wrap_u8]; omega) ?_
                refine RW.assign rfl rfl ?_
                refine RW.nil (EX.bkN (EX.seq (CW.seq (CW.seq ?_))))
                -- mq: region
                refine CW.region ?_
                refine RW.move rfl rfl ?_
                refine RW.move rfl rfl ?_
                refine RW.convI (r := 16) rfl rfl Tryd.underlying3 Tryd.underlying5 rfl ?_
                refine RW.geq rfl rfl rfl ?_
                refine RW.nil (EX.seq ?_)
                -- mq: cond
                first | refine CW.condD rfl (fun h7 => ?_) (fun h7 => ?_) | refine CW.cond rfl (fun h7 => ?_) (fun h7 => ?_)
                · skip
                  refine CW.seq (CW.region ?_)
                  refine RW.mkI (by kernel_rfl) rfl rfl ?_
                  refine RW.assign rfl rfl ?_
                  refine RW.assign rfl rfl ?_
                  refine RW.nil (EX.seq (CW.ret (EX.seqR (EX.bkR (EX.seqR (EX.lpR (EX.bkR (EX.seqR ?_))))))))
                  refine EX.fin2 Tryd.results70 rfl rfl (fun wz hw => ?_)
                  -- mq: done
                  exact ⟨_, rfl, hw.ext, .inr ⟨.inr (hexV_low (by omega) (.inr (by omega))), rfl⟩⟩
                · skip
                  refine CW.skip (EX.seq (CW.seq (CW.seq (CW.region ?_))))
                  refine RW.move rfl rfl ?_
                  refine RW.move rfl rfl ?_
                  refine RW.geq rfl rfl rfl ?_
                  refine RW.nil (EX.seq ?_)
                  -- mq: cond
                  refine CW.condF rfl ((decide_eq_false (by omega))) ?_
                  refine CW.skip (EX.seq (CW.seq (CW.region ?_)))
                  refine RW.move rfl rfl ?_
                  refine RW.move rfl rfl ?_
                  refine RW.convI (r := 16) rfl rfl Tryd.underlying3 Tryd.underlying22 rfl ?_
                  refine RW.mul (r := ((u * 16 : Nat) : Int)) rfl rfl rfl (by rw [IntKind.wrap_u64]; omega) ?_
                  refine RW.assign rfl rfl ?_
                  refine RW.nil (EX.seq (CW.seq ?_))
                  -- mq: region
                  refine CW.region ?_
                  refine RW.move rfl rfl ?_
                  refine RW.move rfl rfl ?_
                  refine RW.convI (r := (((b.toNat ||| 32) - 87 : Nat) : Int)) rfl rfl Tryd.underlying5 Tryd.underlying22 (by rw [IntKind.wrap_u64]; omega) ?_
                  refine RW.add (r := ((u * 16 + ((b.toNat ||| 32) - 87) : Nat) : Int)) rfl rfl rfl (by rw [IntKind.wrap_u64]; omega) ?_
                  refine RW.assign rfl rfl ?_
                  refine RW.nil (EX.seq (CW.seq (CW.seq (CW.region ?_))))
                  refine RW.move rfl rfl ?_
                  refine RW.move rfl rfl ?_
                  refine RW.lss rfl rfl rfl ?_
                  refine RW.move rfl rfl ?_
                  -- mq: guard slot 155
                  refine RW.guardT rfl rfl (decide_eq_false (by omega)) ?_
                  refine RW.move rfl rfl ?_
                  refine RW.guardT rfl rfl (decide_eq_false (by omega)) ?_
                  refine RW.move rfl rfl ?_
                  refine RW.guardT rfl rfl (decide_eq_false (by omega)) ?_
                  refine RW.gtr rfl rfl rfl ?_
                  refine RW.pickC rfl rfl (decide_eq_false (by omega)) rfl ?_
                  refine RW.nil (EX.seq ?_)
                  -- mq: cond
                  refine CW.condF rfl ((decide_eq_false (by omega))) ?_
                  refine CW.skip (EX.seq (CW.region ?_))
                  refine RW.move rfl rfl ?_
                  refine RW.assign rfl rfl ?_
                  refine RW.nil (EX.bkN (EX.seq (CW.region ?_)))
                  refine RW.add rfl rfl rfl (wrap64 (by omega) (by omega)) ?_
                  refine RW.move rfl rfl ?_
                  refine RW.nil ?_
                  -- mq: loopend
                  exact EX.lpN (2, u * 16 + ((b.toNat ||| 32) - 87)) (.inr (.inr ⟨rfl, _, _, hu, (okD_low (by omega) (by omega)), by dsimp only; omega⟩)) (by dsimp only; omega) (by repeat (first | exact Sub.nil | refine Sub.cons (by rfl) ?_)) (fun w' hw' => hw')
              · skip
                refine CW.seq (CW.region ?_)
                refine RW.mkI (by kernel_rfl) rfl rfl ?_
                refine RW.assign rfl rfl ?_
                refine RW.assign rfl rfl ?_
                refine RW.nil (EX.seq (CW.ret (EX.bkR (EX.seqR (EX.bkR (EX.seqR (EX.lpR (EX.bkR (EX.seqR ?_)))))))))
                refine EX.fin2 Tryd.results70 rfl rfl (fun wz hw => ?_)
                -- mq: done
                exact ⟨_, rfl, hw.ext, .inr ⟨.inr (hexV_low (by omega) (.inl (by omega))), rfl⟩⟩
            · skip
              have h4p := of_decide_eq_false h4
              refine RW.guardF rfl rfl rfl h4 ?_
              refine RW.guardF rfl rfl rfl h4 ?_
              refine RW.guardF rfl rfl rfl h4 ?_
              refine RW.pickC rfl rfl h4 rfl ?_
              refine RW.assign rfl rfl ?_
              refine RW.nil (EX.seq ?_)
              -- mq: cond
              refine CW.condF rfl (rfl) ?_
              refine CW.seq (CW.region ?_)
              refine RW.mkI (by kernel_rfl) rfl rfl ?_
              refine RW.assign rfl rfl ?_
              refine RW.assign rfl rfl ?_
              refine RW.nil (EX.seq (CW.ret (EX.bkR (EX.seqR (EX.bkR (EX.seqR (EX.lpR (EX.bkR (EX.seqR ?_)))))))))
              refine EX.fin2 Tryd.results70 rfl rfl (fun wz hw => ?_)
              -- mq: done
              exact ⟨_, rfl, hw.ext, .inr ⟨.inr (hexV_low (by omega) (.inl (by omega))), rfl⟩⟩
        · skip
          have h2p := of_decide_eq_false h2
          refine RW.guardF rfl rfl rfl h2 ?_
          refine RW.guardF rfl rfl rfl h2 ?_
          refine RW.pickC rfl rfl h2 rfl ?_
          refine RW.assign rfl rfl ?_
          refine RW.nil (EX.seq ?_)
          -- mq: cond
          refine CW.condF rfl (rfl) ?_
          refine CW.seq (CW.region ?_)
          refine RW.move rfl rfl ?_
          refine RW.call rfl caLow rfl (fun w' _ => low_c w' b) ?_
          refine RW.leq rfl rfl rfl ?_
          refine RW.move rfl rfl ?_
          -- mq: guard slot 125
          refine RW.casesB 125 rfl (fun h4 => ?_) (fun h4 => ?_)
          · skip
            have h4p := of_decide_eq_true h4
            refine RW.guardT rfl rfl h4 ?_
            refine RW.move rfl rfl ?_
            refine RW.guardT rfl rfl h4 ?_
            refine RW.call rfl caLow rfl (fun w' _ => low_c w' b) ?_
            refine RW.guardT rfl rfl h4 ?_
            refine RW.leq rfl rfl rfl ?_
            refine RW.pickB rfl rfl h4 rfl ?_
            refine RW.assign rfl rfl ?_
            refine RW.nil (EX.seq ?_)
            -- mq: cond
            first | refine CW.condD rfl (fun h5 => ?_) (fun h5 => ?_) | refine CW.cond rfl (fun h5 => ?_) (fun h5 => ?_)
            · skip
              refine CW.region ?_
              refine RW.move rfl rfl ?_
              refine RW.call rfl caLow rfl (fun w' _ => low_c w' b) ?_
              refine RW.sub_ (r := (((b.toNat ||| 32) - 97 : Nat) : Int)) rfl rfl rfl (by rw [IntKind.wrap_u8]; omega) ?_
              refine RW.add (r := (((b.toNat ||| 32) - 87 : Nat) : Int)) rfl rfl rfl (by rw [IntKind.wrap_u8]; omega) ?_
              refine RW.assign rfl rfl ?_
              refine RW.nil (EX.bkN (EX.seq (CW.seq (CW.seq ?_))))
              -- mq: region
              refine CW.region ?_
              refine RW.move rfl rfl ?_
              refine RW.move rfl rfl ?_
              refine RW.convI (r := 16) rfl rfl Tryd.underlying3 Tryd.underlying5 rfl ?_
              refine RW.geq rfl rfl rfl ?_
              refine RW.nil (EX.seq ?_)
              -- mq: cond
              first | refine CW.condD rfl (fun h7 => ?_) (fun h7 => ?_) | refine CW.cond rfl (fun h7 => ?_) (fun h7 => ?_)
              · skip
                refine CW.seq (CW.region ?_)
                refine RW.mkI (by kernel_rfl) rfl rfl ?_
                refine RW.assign rfl rfl ?_
                refine RW.assign rfl rfl ?_
                refine RW.nil (EX.seq (CW.ret (EX.seqR (EX.bkR (EX.seqR (EX.lpR (EX.bkR (EX.seqR ?_))))))))
                refine EX.fin2 Tryd.results70 rfl rfl (fun wz hw => ?_)
                -- mq: done
                exact ⟨_, rfl, hw.ext, .inr ⟨.inr (hexV_low (by omega) (.inr (by omega))), rfl⟩⟩
              · skip
                refine CW.skip (EX.seq (CW.seq (CW.seq (CW.region ?_))))
                refine RW.move rfl rfl ?_
                refine RW.move rfl rfl ?_
                refine RW.geq rfl rfl rfl ?_
                refine RW.nil (EX.seq ?_)
                -- mq: cond
                refine CW.condF rfl ((decide_eq_false (by omega))) ?_
                refine CW.skip (EX.seq (CW.seq (CW.region ?_)))
                refine RW.move rfl rfl ?_
                refine RW.move rfl rfl ?_
                refine RW.convI (r := 16) rfl rfl Tryd.underlying3 Tryd.underlying22 rfl ?_
                refine RW.mul (r := ((u * 16 : Nat) : Int)) rfl rfl rfl (by rw [IntKind.wrap_u64]; omega) ?_
                refine RW.assign rfl rfl ?_
                refine RW.nil (EX.seq (CW.seq ?_))
                -- mq: region
                refine CW.region ?_
                refine RW.move rfl rfl ?_
                refine RW.move rfl rfl ?_
                refine RW.convI (r := (((b.toNat ||| 32) - 87 : Nat) : Int)) rfl rfl Tryd.underlying5 Tryd.underlying22 (by rw [IntKind.wrap_u64]; omega) ?_
                refine RW.add (r := ((u * 16 + ((b.toNat ||| 32) - 87) : Nat) : Int)) rfl rfl rfl (by rw [IntKind.wrap_u64]; omega) ?_
                refine RW.assign rfl rfl ?_
                refine RW.nil (EX.seq (CW.seq (CW.seq (CW.region ?_))))
                refine RW.move rfl rfl ?_
                refine RW.move rfl rfl ?_
                refine RW.lss rfl rfl rfl ?_
                refine RW.move rfl rfl ?_
                -- mq: guard slot 155
                refine RW.guardT rfl rfl (decide_eq_false (by omega)) ?_
                refine RW.move rfl rfl ?_
                refine RW.guardT rfl rfl (decide_eq_false (by omega)) ?_
                refine RW.move rfl rfl ?_
                refine RW.guardT rfl rfl (decide_eq_false (by omega)) ?_
                refine RW.gtr rfl rfl rfl ?_
                refine RW.pickC rfl rfl (decide_eq_false (by omega)) rfl ?_
                refine RW.nil (EX.seq ?_)
                -- mq: cond
                refine CW.condF rfl ((decide_eq_false (by omega))) ?_
                refine CW.skip (EX.seq (CW.region ?_))
                refine RW.move rfl rfl ?_
                refine RW.assign rfl rfl ?_
                refine RW.nil (EX.bkN (EX.seq (CW.region ?_)))
                refine RW.add rfl rfl rfl (wrap64 (by omega) (by omega)) ?_
                refine RW.move rfl rfl ?_
                refine RW.nil ?_
                -- mq: loopend
                exact EX.lpN (2, u * 16 + ((b.toNat ||| 32) - 87)) (.inr (.inr ⟨rfl, _, _, hu, (okD_low (by omega) (by omega)), by dsimp only; omega⟩)) (by dsimp only; omega) (by repeat (first | exact Sub.nil | refine Sub.cons (by rfl) ?_)) (fun w' hw' => hw')
            · skip
              refine CW.seq (CW.region ?_)
              refine RW.mkI (by kernel_rfl) rfl rfl ?_
              refine RW.assign rfl rfl ?_
              refine RW.assign rfl rfl ?_
              refine RW.nil (EX.seq (CW.ret (EX.bkR (EX.seqR (EX.bkR (EX.seqR (EX.lpR (EX.bkR (EX.seqR ?_)))))))))
              refine EX.fin2 Tryd.results70 rfl rfl (fun wz hw => ?_)
              -- mq: done
              exact ⟨_, rfl, hw.ext, .inr ⟨.inr (hexV_low (by omega) (.inl (by omega))), rfl⟩⟩
          · skip
            have h4p := of_decide_eq_false h4
            refine RW.guardF rfl rfl rfl h4 ?_
            refine RW.guardF rfl rfl rfl h4 ?_
            refine RW.guardF rfl rfl rfl h4 ?_
            refine RW.pickC rfl rfl h4 rfl ?_
            refine RW.assign rfl rfl ?_
            refine RW.nil (EX.seq ?_)
            -- mq: cond
            refine CW.condF rfl (rfl) ?_
            refine CW.seq (CW.region ?_)
            refine RW.mkI (by kernel_rfl) rfl rfl ?_
            refine RW.assign rfl rfl ?_
            refine RW.assign rfl rfl ?_
            refine RW.nil (EX.seq (CW.ret (EX.bkR (EX.seqR (EX.bkR (EX.seqR (EX.lpR (EX.bkR (EX.seqR ?_)))))))))
            refine EX.fin2 Tryd.results70 rfl rfl (fun wz hw => ?_)
            -- mq: done
            exact ⟨_, rfl, hw.ext, .inr ⟨.inr (hexV_low (by omega) (.inl (by omega))), rfl⟩⟩
    · skip
      refine CW.seq (CW.region ?_)
      refine RW.lss rfl rfl rfl ?_
      refine RW.nil (EX.seq (CW.seq ?_))
      -- mq: cond
      refine CW.condF rfl ((decide_eq_false (by omega))) ?_
      refine CW.exit (EX.seqE (EX.lpE (EX.bkE (EX.seq (CW.seq (CW.seq (CW.region ?_)))))))
      refine RW.move rfl rfl ?_
      refine RW.move rfl rfl ?_
      refine RW.guardF rfl rfl rfl rfl ?_
      refine RW.guardF rfl rfl rfl rfl ?_
      refine RW.guardF rfl rfl rfl rfl ?_
      refine RW.pickC rfl rfl rfl rfl ?_
      refine RW.nil (EX.seq ?_)
      -- mq: cond
      refine CW.condF rfl (rfl) ?_
      refine CW.skip (EX.seq (CW.seq (CW.region ?_)))
      refine RW.move rfl rfl ?_
      refine RW.assign rfl rfl ?_
      refine RW.assign rfl rfl ?_
      refine RW.nil (EX.seq (CW.ret ?_))
      refine EX.fin2 Tryd.results70 rfl rfl (fun wz hw => ?_)
      -- mq: done
      exact ⟨_, rfl, hw.ext, .inl ⟨y, z, hy.1, hz.1, hy.2, hz.2, rfl⟩⟩
end Go.Proofs.YtnkdabjahmjdoaaDoor.Mq
