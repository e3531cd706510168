/- text: utf.Put, cell, size, Less, within -/
import Derived.Test.YtjmmikdbhhomiaaTx2
import Derived.Test.YtjmmikdbhhomiaaDrawU
import Derived.Test.YtjmmikdbhhomiaaBits
namespace Go.Proofs.Ytjmmikdbhhomiaa.Mq
open Go Go.RowKit Go.Proofs

theorem scalar_c (w : World) (r : Int) : Calls Try.prog 60 [.int .i32 r].toArray w (fun e w' => e = .returned (.bool (scalarB r)) ∧ Ext [] w w') := by
  refine calls (n := 17) Try.func60 rfl Try.ntmps60 rfl ?_
  refine CW.sub (H' := SH w [] []) ?_ (Sub.refl _) (fun x hx => SH.start' _ _ hx)
  refine CW.seq (CW.region ?_)
  refine RW.assign rfl rfl ?_
  refine RW.nil (EX.seq (CW.seq (CW.region ?_)))
  refine RW.move rfl rfl ?_
  refine RW.geq rfl rfl rfl ?_
  refine RW.move rfl rfl ?_
  -- mq: guard slot 5
  refine RW.casesB 5 rfl (fun h1 => ?_) (fun h1 => ?_)
  · skip
    have h1p := of_decide_eq_true h1
    refine RW.guardT rfl rfl h1 ?_
    refine RW.move rfl rfl ?_
    refine RW.guardT rfl rfl h1 ?_
    refine RW.leq rfl rfl rfl ?_
    refine RW.pickB rfl rfl h1 rfl ?_
    refine RW.move rfl rfl ?_
    -- mq: guard slot 9
    refine RW.casesB 9 rfl (fun h2 => ?_) (fun h2 => ?_)
    · skip
      have h2p := of_decide_eq_true h2
      refine RW.guardT rfl rfl h2 ?_
      refine RW.move rfl rfl ?_
      refine RW.guardT rfl rfl h2 ?_
      refine RW.lss rfl rfl rfl ?_
      refine RW.guardT rfl rfl h2 ?_
      refine RW.move rfl rfl ?_
      -- mq: guard slot 12
      refine RW.casesB 12 rfl (fun h3 => ?_) (fun h3 => ?_)
      · skip
        have h3p := of_decide_eq_true h3
        refine RW.guardF rfl rfl rfl h3 ?_
        refine RW.guardF rfl rfl rfl h3 ?_
        refine RW.guardT rfl rfl h2 ?_
        refine RW.pickB rfl rfl h3 rfl ?_
        refine RW.pickB rfl rfl h2 rfl ?_
        refine RW.assign rfl rfl ?_
        refine RW.nil (EX.seq (CW.ret ?_))
        refine EX.fin1 Try.results60 rfl (fun wz hw => ?_)
        -- mq: done
        refine ⟨?_, hw.ext⟩
        unfold scalarB
        rw [decide_eq_true (show 0 ≤ r by omega), decide_eq_true (show r ≤ 1114111 by omega), decide_eq_false (show ¬ 55296 ≤ r by omega)]; rfl
      · skip
        have h3p := of_decide_eq_false h3
        refine RW.guardT rfl rfl h3 ?_
        refine RW.move rfl rfl ?_
        refine RW.guardT rfl rfl h3 ?_
        refine RW.gtr rfl rfl rfl ?_
        refine RW.guardT rfl rfl h2 ?_
        refine RW.pickC rfl rfl h3 rfl ?_
        refine RW.pickB rfl rfl h2 rfl ?_
        refine RW.assign rfl rfl ?_
        refine RW.nil (EX.seq (CW.ret ?_))
        refine EX.fin1 Try.results60 rfl (fun wz hw => ?_)
        -- mq: done
        refine ⟨?_, hw.ext⟩
        unfold scalarB
        rw [decide_eq_true (show 0 ≤ r by omega), decide_eq_true (show r ≤ 1114111 by omega), decide_eq_true (show 55296 ≤ r by omega)]
        by_cases h : r ≤ 57343
        · rw [decide_eq_true h, decide_eq_false (show ¬ 57343 < r by omega)]; rfl
        · rw [decide_eq_false h, decide_eq_true (show 57343 < r by omega)]; rfl
    · skip
      have h2p := of_decide_eq_false h2
      refine RW.guardF rfl rfl rfl h2 ?_
      refine RW.guardF rfl rfl rfl h2 ?_
      refine RW.guardF rfl rfl rfl h2 ?_
      refine RW.guardU rfl rfl rfl ?_
      refine RW.guardU rfl rfl rfl ?_
      refine RW.guardF rfl rfl rfl h2 ?_
      refine RW.pickC rfl rfl h2 rfl ?_
      refine RW.assign rfl rfl ?_
      refine RW.nil (EX.seq (CW.ret ?_))
      refine EX.fin1 Try.results60 rfl (fun wz hw => ?_)
      -- mq: done
      refine ⟨?_, hw.ext⟩
      unfold scalarB
      rw [decide_eq_true (show 0 ≤ r by omega), decide_eq_false (show ¬ r ≤ 1114111 by omega)]; rfl
  · skip
    have h1p := of_decide_eq_false h1
    refine RW.guardF rfl rfl rfl h1 ?_
    refine RW.guardF rfl rfl rfl h1 ?_
    refine RW.pickC rfl rfl h1 rfl ?_
    refine RW.move rfl rfl ?_
    refine RW.guardF rfl rfl rfl rfl ?_
    refine RW.guardF rfl rfl rfl rfl ?_
    refine RW.guardF rfl rfl rfl rfl ?_
    refine RW.guardU rfl rfl rfl ?_
    refine RW.guardU rfl rfl rfl ?_
    refine RW.guardF rfl rfl rfl rfl ?_
    refine RW.pickC rfl rfl rfl rfl ?_
    refine RW.assign rfl rfl ?_
    refine RW.nil (EX.seq (CW.ret ?_))
    refine EX.fin1 Try.results60 rfl (fun wz hw => ?_)
    -- mq: done
    refine ⟨?_, hw.ext⟩
    unfold scalarB
    rw [decide_eq_false (show ¬ 0 ≤ r by omega)]; rfl
theorem tail_nat (x k : Nat) : (128 ||| (x / 2 ^ (6 * k) % 256 &&& 63)) < 256 := by
  refine Nat.or_lt_two_pow (n := 8) (by decide) ?_
  have := @Nat.and_le_right (x / 2 ^ (6 * k) % 256) 63
  omega
theorem put1_c (w : World) (g x k : Nat) (hx : x ≤ 1114111) (hk : k ≤ 2) (hc : w.cell? ⟨g, 0, none⟩ = some (.int .i32 (x : Int))) :
    Calls Try.prog 59 [.int .i64 (k : Int), .pointer (some ⟨g, 0, none⟩)].toArray w (fun e w' => e = .returned (.int .u8 ((tailF x k).toNat : Int)) ∧ Ext [] w w') := by
  have ht := tail_nat x k
  have ha := @Nat.and_le_right (x / 2 ^ (6 * k) % 256) 63
  have hm : x / 2 ^ (6 * k) % 256 < 256 := Nat.mod_lt _ (by decide)
  have hq : x / 2 ^ (6 * k) ≤ x := Nat.div_le_self _ _
  refine calls (n := 11) Try.func59 rfl Try.ntmps59 rfl ?_
  refine CW.sub (H' := SH w [] []) ?_ (Sub.refl _) (fun x hx => SH.start' _ _ hx)
  refine CW.seq (CW.region ?_)
  refine RW.assign rfl rfl ?_
  refine RW.nil (EX.seq (CW.seq ?_))
  -- mq: region
  refine CW.region ?_
  refine RW.load1 sc21 rfl rfl (fun w' hw' => hw'.base_cell hc (by simp)) ?_
  refine RW.move rfl rfl ?_
  refine RW.mul (r := ((6 * k : Nat) : Int)) rfl rfl rfl (by rw [wrap64 (by omega) (by omega)]; omega) ?_
  refine RW.shrN (r := ((x / 2 ^ (6 * k) : Nat) : Int)) rfl rfl rfl (by omega) (by rcases (show k = 0 ∨ k = 1 ∨ k = 2 by omega) with rfl | rfl | rfl <;> rfl) ?_
  refine RW.convI (r := ((x / 2 ^ (6 * k) % 256 : Nat) : Int)) rfl rfl Try.underlying21 Try.underlying5 (by rw [IntKind.wrap_u8]; omega) ?_
  refine RW.and_ (r := ((x / 2 ^ (6 * k) % 256 &&& 63 : Nat) : Int)) rfl rfl rfl (and_eq (m := x / 2 ^ (6 * k) % 256) (n := 63) rfl rfl hm (by decide) (wrapN8 (by omega) (by omega))) ?_
  refine RW.or_ (r := ((128 ||| (x / 2 ^ (6 * k) % 256 &&& 63) : Nat) : Int)) rfl rfl rfl (or_eq (m := 128) (n := x / 2 ^ (6 * k) % 256 &&& 63) rfl rfl (by decide) (by simp only [IntKind.bits]; omega) (wrapN8 (by omega) (by omega))) ?_
  refine RW.assign rfl rfl ?_
  refine RW.nil (EX.seq (CW.ret ?_))
  refine EX.fin1 Try.results59 rfl (fun wz hw => ?_)
  -- mq: done
  refine ⟨?_, hw.ext⟩
  rw [tailF, UInt8.toNat_ofNat', Nat.mod_eq_of_lt ht]
theorem caP1 : CaT Try.prog 59 := CaT.of Try.func59 (by kernel_rfl) (by kernel_rfl)
theorem shr12 (x : Nat) : (x : Int) / 2 ^ min (12 : Int).toNat IntKind.i32.bits = ((x / 4096 : Nat) : Int) := by
  have e : (2 : Int) ^ min (12 : Int).toNat IntKind.i32.bits = 4096 := by decide
  rw [e]; omega
theorem shr18 (x : Nat) : (x : Int) / 2 ^ min (18 : Int).toNat IntKind.i32.bits = ((x / 262144 : Nat) : Int) := by
  have e : (2 : Int) ^ min (18 : Int).toNat IntKind.i32.bits = 262144 := by decide
  rw [e]; omega
theorem or_u8 {a m : Nat} (ha : a < 256) (hm : m < 256) : IntKind.u8.wrap ((BitVec.ofInt IntKind.u8.bits (a : Int) ||| BitVec.ofInt IntKind.u8.bits (m : Int)).toNat : Int) = ((UInt8.ofNat (a ||| m)).toNat : Int) := by
  have h := Nat.or_lt_two_pow (n := 8) ha hm
  refine or_eq (m := a) (n := m) rfl rfl ha hm ?_
  rw [wrapN8 (by omega) (by omega), UInt8.toNat_ofNat', Nat.mod_eq_of_lt h]
theorem Put_c (w : World) (r : Int) : Calls Try.prog 56 [.int .i32 r].toArray w (fun e w' => e = .returned (.string (bs (putF r))) ∧ Ext [] w w') := by
  refine calls (n := 52) Try.func56 rfl Try.ntmps56 rfl ?_
  refine CW.sub (H' := SH w [] []) ?_ (Sub.refl _) (fun x hx => SH.start' _ _ hx)
  refine CW.seq (CW.region ?_)
  refine RW.box1 rfl rfl rfl (fun g1 hg1 hf1 => ?_)
  refine RW.assign rfl rfl ?_
  refine RW.nil (EX.seq (CW.seq ?_))
  -- mq: region
  refine CW.region ?_
  refine RW.makeFunc rfl rfl rfl ?_
  refine RW.assign rfl rfl ?_
  refine RW.nil (EX.seq (CW.seq (CW.block (CW.seq ?_))))
  -- mq: region
  refine CW.region ?_
  refine RW.loadB1 sc21 rfl rfl (by first | exact Has.head | exact Has.tail Has.head | exact Has.tail (Has.tail Has.head) | exact Has.tail (Has.tail (Has.tail Has.head)) | exact Has.tail (Has.tail (Has.tail (Has.tail Has.head))) | exact Has.tail (Has.tail (Has.tail (Has.tail (Has.tail Has.head)))) | exact Has.tail (Has.tail (Has.tail (Has.tail (Has.tail (Has.tail Has.head)))))) rfl ?_
  refine RW.call rfl ca60 rfl (fun w' _ => scalar_c w' r) ?_
  refine RW.not_ rfl rfl ?_
  refine RW.assign rfl rfl ?_
  refine RW.nil (EX.seq ?_)
  -- mq: cond
  first | refine CW.condD rfl (fun h1 => ?_) (fun h1 => ?_) | refine CW.cond rfl (fun h1 => ?_) (fun h1 => ?_)
  · skip
    have hs : scalarB r = false := by simpa using h1
    refine CW.seq (CW.region ?_)
    refine RW.assign rfl rfl ?_
    refine RW.nil (EX.seq (CW.ret (EX.bkR (EX.seqR ?_))))
    refine EX.fin1 Try.results56 rfl (fun wz hw => ?_)
    -- mq: done
    exact ⟨by rw [putF, if_neg (by rw [hs]; decide)] <;> rfl, hw.ext⟩
  · skip
    have hs : scalarB r = true := by simpa using h1
    have hs2 := hs
    unfold scalarB at hs2
    rw [Bool.and_eq_true, Bool.and_eq_true, decide_eq_true_eq, decide_eq_true_eq] at hs2
    obtain ⟨x, rfl⟩ : ∃ x : Nat, r = (x : Int) := ⟨r.toNat, by omega⟩
    have hx : x ≤ 1114111 := by omega
    have hxt : ((x : Int)).toNat = x := rfl
    have hput : ∀ l, putF (x : Int) = l → bs (putF (x : Int)) = bs l := fun l h => by rw [h]
    refine CW.seq (CW.region ?_)
    refine RW.loadB1 sc21 rfl rfl (by first | exact Has.head | exact Has.tail Has.head | exact Has.tail (Has.tail Has.head) | exact Has.tail (Has.tail (Has.tail Has.head)) | exact Has.tail (Has.tail (Has.tail (Has.tail Has.head))) | exact Has.tail (Has.tail (Has.tail (Has.tail (Has.tail Has.head)))) | exact Has.tail (Has.tail (Has.tail (Has.tail (Has.tail (Has.tail Has.head)))))) rfl ?_
    refine RW.lss rfl rfl rfl ?_
    refine RW.assign rfl rfl ?_
    refine RW.nil (EX.seq ?_)
    -- mq: cond
    first | refine CW.condD rfl (fun h2 => ?_) (fun h2 => ?_) | refine CW.cond rfl (fun h2 => ?_) (fun h2 => ?_)
    · skip
      refine CW.seq (CW.region ?_)
      refine RW.loadB1 sc21 rfl rfl (by first | exact Has.head | exact Has.tail Has.head | exact Has.tail (Has.tail Has.head) | exact Has.tail (Has.tail (Has.tail Has.head)) | exact Has.tail (Has.tail (Has.tail (Has.tail Has.head))) | exact Has.tail (Has.tail (Has.tail (Has.tail (Has.tail Has.head)))) | exact Has.tail (Has.tail (Has.tail (Has.tail (Has.tail (Has.tail Has.head)))))) rfl ?_
      refine RW.convI (r := ((UInt8.ofNat x).toNat : Int)) rfl rfl Try.underlying21 Try.underlying5 (by rw [IntKind.wrap_u8, UInt8.toNat_ofNat']; omega) ?_
      refine RW.buildSlc sl59 rfl rfl rfl rfl (fun g14 hg14 hf14 => ?_)
      -- mq: at
      refine RW.bytesStr (s := [UInt8.ofNat x]) Try.underlying59 Try.underlying5 Try.underlying9 rfl rfl (fun w' hw' => Rd.of_blk (E := EU8) (L := [UInt8.ofNat x]) hw' Has.head rfl (by decide)) ?_
      refine RW.assign rfl rfl ?_
      refine RW.nil (EX.seq (CW.ret (EX.bkR (EX.seqR ?_))))
      refine EX.fin1 Try.results56 rfl (fun wz hw => ?_)
      -- mq: done
      exact ⟨by rw [putF, if_pos hs, if_pos h2] <;> rfl, hw.ext⟩
    · skip
      have h2' : ¬ (x : Int) < 128 := h2
      refine CW.seq (CW.region ?_)
      refine RW.loadB1 sc21 rfl rfl (by first | exact Has.head | exact Has.tail Has.head | exact Has.tail (Has.tail Has.head) | exact Has.tail (Has.tail (Has.tail Has.head)) | exact Has.tail (Has.tail (Has.tail (Has.tail Has.head))) | exact Has.tail (Has.tail (Has.tail (Has.tail (Has.tail Has.head)))) | exact Has.tail (Has.tail (Has.tail (Has.tail (Has.tail (Has.tail Has.head)))))) rfl ?_
      refine RW.lss rfl rfl rfl ?_
      refine RW.assign rfl rfl ?_
      refine RW.nil (EX.seq ?_)
      -- mq: cond
      first | refine CW.condD rfl (fun h3 => ?_) (fun h3 => ?_) | refine CW.cond rfl (fun h3 => ?_) (fun h3 => ?_)
      · skip
        have h3' : (x : Int) < 2048 := h3
        refine CW.seq ?_
        -- mq: region
        refine CW.drawU [0, 1, 2, 3, 4] 3 [[(5, false, []), (6, false, []), (7, false, [8])]] (Ch [blk g1 [.int .i32 (x : Int)] 21]) mixed (by kernel_rfl) (fun _ hw => hw.drew) (fun _ h => (by first | exact h.ch | exact (h.rem Rem.head).ch | exact ((h.rem Rem.head).rem Rem.head).ch)) ?_
        refine QuP.cons rfl (fun wq hq => (RW.load1 sc21 rfl rfl (fun w1 e1 => by subst e1; exact hq.blk_cell (by first | exact Has.head | exact Has.tail Has.head | exact Has.tail (Has.tail Has.head) | exact Has.tail (Has.tail (Has.tail Has.head)) | exact Has.tail (Has.tail (Has.tail (Has.tail Has.head))) | exact Has.tail (Has.tail (Has.tail (Has.tail (Has.tail Has.head)))) | exact Has.tail (Has.tail (Has.tail (Has.tail (Has.tail (Has.tail Has.head)))))) rfl) RW.jn)) ?_
        refine QuP.cons rfl (fun wq hq => (RW.shrN (r := ((x / 64 : Nat) : Int)) rfl rfl rfl (by decide) rfl RW.jn)) ?_
        refine QuP.cons rfl (fun wq hq => (RW.convI (r := ((x / 64 % 256 : Nat) : Int)) rfl rfl Try.underlying21 Try.underlying5 (by rw [IntKind.wrap_u8]; omega) RW.jn)) ?_
        refine QuP.cons rfl (fun wq hq => (RW.or_ (r := ((UInt8.ofNat (192 ||| x / 64 % 256)).toNat : Int)) rfl rfl rfl (or_u8 (a := 192) (m := x / 64 % 256) (by decide) (by omega)) RW.jn)) ?_
        refine QuP.cons rfl (fun wq hq => (RW.move rfl rfl RW.jn)) ?_
        refine QuP.nil ?_
        refine UW.step [_] rfl (List.forall_mem_cons.2 ⟨?_, by simp⟩)
        refine RW.callV (first := []) (cap := [.pointer (some ⟨g1, 0, none⟩)]) (v := .int .u8 ((tailF x 0).toNat : Int)) rfl rfl caP1 rfl (fun w' hw' => put1_c w' g1 x 0 hx (by decide) (hw'.blk_cell (by first | exact Has.head | exact Has.tail Has.head) rfl)) ?_
        refine RW.st (fun _ => True) (fun _ h => .inr (by first | exact h.ch | exact (h.rem Rem.head).ch | exact ((h.rem Rem.head).rem Rem.head).ch)) (fun _ h => trivial) ?_
        refine QuP.nil ?_
        refine UW.step [_] rfl (List.forall_mem_cons.2 ⟨?_, by simp⟩)
        refine RW.buildSlc sl59 rfl rfl rfl rfl (fun g25 hg25 hf25 => ?_)
        refine RW.st (fun _ => True) (fun _ h => .inr ⟨.inr (by first | exact h.ch | exact (h.rem Rem.head).ch | exact ((h.rem Rem.head).rem Rem.head).ch), trivial⟩) (fun _ h => trivial) ?_
        refine QuP.nil ?_
        refine UW.step [_] rfl (List.forall_mem_cons.2 ⟨?_, by simp⟩)
        refine RW.bytesStr (s := [UInt8.ofNat (192 ||| x / 64 % 256), tailF x 0]) Try.underlying59 Try.underlying5 Try.underlying9 rfl rfl (fun w' hw' => Rd.of_blk (E := EU8) (L := [UInt8.ofNat (192 ||| x / 64 % 256), tailF x 0]) hw' Has.head rfl (by decide)) ?_
        refine RW.st (fun _ => True) (fun _ h => .inr ⟨.inr ⟨.inr (by first | exact h.ch | exact (h.rem Rem.head).ch | exact ((h.rem Rem.head).rem Rem.head).ch), trivial⟩, trivial⟩) (fun _ h => trivial) ?_
        refine QuP.cons rfl (fun wq hq => (RW.assign rfl rfl RW.jn)) ?_
        refine QuP.nil ?_
        refine UW.nil (EX.seq (CW.ret (EX.bkR (EX.seqR ?_))))
        refine EX.fin1 Try.results56 rfl (fun wz hw => ?_)
        -- mq: done
        exact ⟨by rw [putF, if_pos hs, if_neg h2', if_pos h3']; rfl, hw.ext⟩
      · skip
        have h3' : ¬ (x : Int) < 2048 := h3
        refine CW.seq (CW.region ?_)
        refine RW.loadB1 sc21 rfl rfl (by first | exact Has.head | exact Has.tail Has.head | exact Has.tail (Has.tail Has.head) | exact Has.tail (Has.tail (Has.tail Has.head)) | exact Has.tail (Has.tail (Has.tail (Has.tail Has.head))) | exact Has.tail (Has.tail (Has.tail (Has.tail (Has.tail Has.head)))) | exact Has.tail (Has.tail (Has.tail (Has.tail (Has.tail (Has.tail Has.head)))))) rfl ?_
        refine RW.lss rfl rfl rfl ?_
        refine RW.assign rfl rfl ?_
        refine RW.nil (EX.seq ?_)
        -- mq: cond
        first | refine CW.condD rfl (fun h4 => ?_) (fun h4 => ?_) | refine CW.cond rfl (fun h4 => ?_) (fun h4 => ?_)
        · skip
          have h4' : (x : Int) < 65536 := h4
          obtain ⟨q, hqe, hsh⟩ : ∃ q : Nat, q = x / 4096 ∧ (x : Int) / 2 ^ min (12 : Int).toNat IntKind.i32.bits = (q : Int) := ⟨_, rfl, shr12 x⟩
          refine CW.seq ?_
          -- mq: region
          refine CW.drawU [0, 1, 2, 3, 4, 6] 4 [[(5, false, []), (7, false, []), (8, false, []), (9, false, [10])]] (Ch [blk g1 [.int .i32 (x : Int)] 21]) mixed (by kernel_rfl) (fun _ hw => hw.drew) (fun _ h => (by first | exact h.ch | exact (h.rem Rem.head).ch | exact ((h.rem Rem.head).rem Rem.head).ch)) ?_
          refine QuP.cons rfl (fun wq hq => (RW.load1 sc21 rfl rfl (fun w1 e1 => by subst e1; exact hq.blk_cell (by first | exact Has.head | exact Has.tail Has.head | exact Has.tail (Has.tail Has.head) | exact Has.tail (Has.tail (Has.tail Has.head)) | exact Has.tail (Has.tail (Has.tail (Has.tail Has.head))) | exact Has.tail (Has.tail (Has.tail (Has.tail (Has.tail Has.head)))) | exact Has.tail (Has.tail (Has.tail (Has.tail (Has.tail (Has.tail Has.head)))))) rfl) RW.jn)) ?_
          refine QuP.cons rfl (fun wq hq => (RW.shrN (r := (q : Int)) rfl rfl rfl (by decide) hsh RW.jn)) ?_
          refine QuP.cons rfl (fun wq hq => (RW.convI (r := ((q % 256 : Nat) : Int)) rfl rfl Try.underlying21 Try.underlying5 (by rw [IntKind.wrap_u8]; omega) RW.jn)) ?_
          refine QuP.cons rfl (fun wq hq => (RW.or_ (r := ((UInt8.ofNat (224 ||| q % 256)).toNat : Int)) rfl rfl rfl (or_u8 (a := 224) (m := q % 256) (by decide) (by omega)) RW.jn)) ?_
          refine QuP.cons rfl (fun wq hq => (RW.move rfl rfl RW.jn)) ?_
          refine QuP.cons rfl (fun wq hq => (RW.move rfl rfl RW.jn)) ?_
          refine QuP.nil ?_
          refine UW.step [_] rfl (List.forall_mem_cons.2 ⟨?_, by simp⟩)
          refine RW.callV (first := []) (cap := [.pointer (some ⟨g1, 0, none⟩)]) (v := .int .u8 ((tailF x 1).toNat : Int)) rfl rfl caP1 rfl (fun w' hw' => put1_c w' g1 x 1 hx (by decide) (hw'.blk_cell (by first | exact Has.head | exact Has.tail Has.head) rfl)) ?_
          refine RW.st (fun _ => True) (fun _ h => .inr (by first | exact h.ch | exact (h.rem Rem.head).ch | exact ((h.rem Rem.head).rem Rem.head).ch)) (fun _ h => trivial) ?_
          refine QuP.nil ?_
          refine UW.step [_] rfl (List.forall_mem_cons.2 ⟨?_, by simp⟩)
          refine RW.callV (first := []) (cap := [.pointer (some ⟨g1, 0, none⟩)]) (v := .int .u8 ((tailF x 0).toNat : Int)) rfl rfl caP1 rfl (fun w' hw' => put1_c w' g1 x 0 hx (by decide) (hw'.blk_cell (by first | exact Has.head | exact Has.tail Has.head) rfl)) ?_
          refine RW.st (fun _ => True) (fun _ h => .inr ⟨.inr (by first | exact h.ch | exact (h.rem Rem.head).ch | exact ((h.rem Rem.head).rem Rem.head).ch), trivial⟩) (fun _ h => trivial) ?_
          refine QuP.nil ?_
          refine UW.step [_] rfl (List.forall_mem_cons.2 ⟨?_, by simp⟩)
          refine RW.buildSlc sl59 rfl rfl rfl rfl (fun g38 hg38 hf38 => ?_)
          refine RW.st (fun _ => True) (fun _ h => .inr ⟨.inr ⟨.inr (by first | exact h.ch | exact (h.rem Rem.head).ch | exact ((h.rem Rem.head).rem Rem.head).ch), trivial⟩, trivial⟩) (fun _ h => trivial) ?_
          refine QuP.nil ?_
          refine UW.step [_] rfl (List.forall_mem_cons.2 ⟨?_, by simp⟩)
          refine RW.bytesStr (s := [UInt8.ofNat (224 ||| q % 256), tailF x 1, tailF x 0]) Try.underlying59 Try.underlying5 Try.underlying9 rfl rfl (fun w' hw' => Rd.of_blk (E := EU8) (L := [UInt8.ofNat (224 ||| q % 256), tailF x 1, tailF x 0]) hw' Has.head rfl (by decide)) ?_
          refine RW.st (fun _ => True) (fun _ h => .inr ⟨.inr ⟨.inr ⟨.inr (by first | exact h.ch | exact (h.rem Rem.head).ch | exact ((h.rem Rem.head).rem Rem.head).ch), trivial⟩, trivial⟩, trivial⟩) (fun _ h => trivial) ?_
          refine QuP.cons rfl (fun wq hq => (RW.assign rfl rfl RW.jn)) ?_
          refine QuP.nil ?_
          refine UW.nil (EX.seq (CW.ret (EX.bkR (EX.seqR ?_))))
          refine EX.fin1 Try.results56 rfl (fun wz hw => ?_)
          -- mq: done
          exact ⟨by rw [putF, if_pos hs, if_neg h2', if_neg h3', if_pos h4', hxt, ← hqe] <;> rfl, hw.ext⟩
        · skip
          have h4' : ¬ (x : Int) < 65536 := h4
          obtain ⟨q, hqe, hsh⟩ : ∃ q : Nat, q = x / 262144 ∧ (x : Int) / 2 ^ min (18 : Int).toNat IntKind.i32.bits = (q : Int) := ⟨_, rfl, shr18 x⟩
          refine CW.skip (EX.bkN (EX.seq (CW.seq ?_)))
          -- mq: region
          refine CW.drawU [0, 1, 2, 3, 4, 6, 8] 5 [[(5, false, []), (7, false, []), (9, false, []), (10, false, []), (11, false, [12])]] (Ch [blk g1 [.int .i32 (x : Int)] 21]) mixed (by kernel_rfl) (fun _ hw => hw.drew) (fun _ h => (by first | exact h.ch | exact (h.rem Rem.head).ch | exact ((h.rem Rem.head).rem Rem.head).ch)) ?_
          refine QuP.cons rfl (fun wq hq => (RW.load1 sc21 rfl rfl (fun w1 e1 => by subst e1; exact hq.blk_cell (by first | exact Has.head | exact Has.tail Has.head | exact Has.tail (Has.tail Has.head) | exact Has.tail (Has.tail (Has.tail Has.head)) | exact Has.tail (Has.tail (Has.tail (Has.tail Has.head))) | exact Has.tail (Has.tail (Has.tail (Has.tail (Has.tail Has.head)))) | exact Has.tail (Has.tail (Has.tail (Has.tail (Has.tail (Has.tail Has.head)))))) rfl) RW.jn)) ?_
          refine QuP.cons rfl (fun wq hq => (RW.shrN (r := (q : Int)) rfl rfl rfl (by decide) hsh RW.jn)) ?_
          refine QuP.cons rfl (fun wq hq => (RW.convI (r := ((q % 256 : Nat) : Int)) rfl rfl Try.underlying21 Try.underlying5 (by rw [IntKind.wrap_u8]; omega) RW.jn)) ?_
          refine QuP.cons rfl (fun wq hq => (RW.or_ (r := ((UInt8.ofNat (240 ||| q % 256)).toNat : Int)) rfl rfl rfl (or_u8 (a := 240) (m := q % 256) (by decide) (by omega)) RW.jn)) ?_
          refine QuP.cons rfl (fun wq hq => (RW.move rfl rfl RW.jn)) ?_
          refine QuP.cons rfl (fun wq hq => (RW.move rfl rfl RW.jn)) ?_
          refine QuP.cons rfl (fun wq hq => (RW.move rfl rfl RW.jn)) ?_
          refine QuP.nil ?_
          refine UW.step [_] rfl (List.forall_mem_cons.2 ⟨?_, by simp⟩)
          refine RW.callV (first := []) (cap := [.pointer (some ⟨g1, 0, none⟩)]) (v := .int .u8 ((tailF x 2).toNat : Int)) rfl rfl caP1 rfl (fun w' hw' => put1_c w' g1 x 2 hx (by decide) (hw'.blk_cell (by first | exact Has.head | exact Has.tail Has.head) rfl)) ?_
          refine RW.st (fun _ => True) (fun _ h => .inr (by first | exact h.ch | exact (h.rem Rem.head).ch | exact ((h.rem Rem.head).rem Rem.head).ch)) (fun _ h => trivial) ?_
          refine QuP.nil ?_
          refine UW.step [_] rfl (List.forall_mem_cons.2 ⟨?_, by simp⟩)
          refine RW.callV (first := []) (cap := [.pointer (some ⟨g1, 0, none⟩)]) (v := .int .u8 ((tailF x 1).toNat : Int)) rfl rfl caP1 rfl (fun w' hw' => put1_c w' g1 x 1 hx (by decide) (hw'.blk_cell (by first | exact Has.head | exact Has.tail Has.head) rfl)) ?_
          refine RW.st (fun _ => True) (fun _ h => .inr ⟨.inr (by first | exact h.ch | exact (h.rem Rem.head).ch | exact ((h.rem Rem.head).rem Rem.head).ch), trivial⟩) (fun _ h => trivial) ?_
          refine QuP.nil ?_
          refine UW.step [_] rfl (List.forall_mem_cons.2 ⟨?_, by simp⟩)
          refine RW.callV (first := []) (cap := [.pointer (some ⟨g1, 0, none⟩)]) (v := .int .u8 ((tailF x 0).toNat : Int)) rfl rfl caP1 rfl (fun w' hw' => put1_c w' g1 x 0 hx (by decide) (hw'.blk_cell (by first | exact Has.head | exact Has.tail Has.head) rfl)) ?_
          refine RW.st (fun _ => True) (fun _ h => .inr ⟨.inr ⟨.inr (by first | exact h.ch | exact (h.rem Rem.head).ch | exact ((h.rem Rem.head).rem Rem.head).ch), trivial⟩, trivial⟩) (fun _ h => trivial) ?_
          refine QuP.nil ?_
          refine UW.step [_] rfl (List.forall_mem_cons.2 ⟨?_, by simp⟩)
          refine RW.buildSlc sl59 rfl rfl rfl rfl (fun g50 hg50 hf50 => ?_)
          refine RW.st (fun _ => True) (fun _ h => .inr ⟨.inr ⟨.inr ⟨.inr (by first | exact h.ch | exact (h.rem Rem.head).ch | exact ((h.rem Rem.head).rem Rem.head).ch), trivial⟩, trivial⟩, trivial⟩) (fun _ h => trivial) ?_
          refine QuP.nil ?_
          refine UW.step [_] rfl (List.forall_mem_cons.2 ⟨?_, by simp⟩)
          refine RW.bytesStr (s := [UInt8.ofNat (240 ||| q % 256), tailF x 2, tailF x 1, tailF x 0]) Try.underlying59 Try.underlying5 Try.underlying9 rfl rfl (fun w' hw' => Rd.of_blk (E := EU8) (L := [UInt8.ofNat (240 ||| q % 256), tailF x 2, tailF x 1, tailF x 0]) hw' Has.head rfl (by decide)) ?_
          refine RW.st (fun _ => True) (fun _ h => .inr ⟨.inr ⟨.inr ⟨.inr ⟨.inr (by first | exact h.ch | exact (h.rem Rem.head).ch | exact ((h.rem Rem.head).rem Rem.head).ch), trivial⟩, trivial⟩, trivial⟩, trivial⟩) (fun _ h => trivial) ?_
          refine QuP.cons rfl (fun wq hq => (RW.assign rfl rfl RW.jn)) ?_
          refine QuP.nil ?_
          refine UW.nil (EX.seq (CW.ret ?_))
          refine EX.fin1 Try.results56 rfl (fun wz hw => ?_)
          -- mq: done
          exact ⟨by rw [putF, if_pos hs, if_neg h2', if_neg h3', if_neg h4', hxt, ← hqe] <;> rfl, hw.ext⟩
theorem cell_c (w : World) (c : CellV) (hm : c.more.length ≤ 1000000) : Calls Try.prog 49 [.agg c.enc.toArray].toArray w (fun e w' => e = .returned (.string (bs (cellT c))) ∧ Ext [] w w') := by
  have hpl := putF_len c.r
  refine calls (n := 17) Try.func49 rfl Try.ntmps49 rfl ?_
  refine CW.sub (H' := SH w [] []) ?_ (Sub.refl _) (fun x hx => SH.start' _ _ hx)
  refine CW.seq (CW.region ?_)
  refine RW.boxA rfl rfl (fun g1 hg1 hf1 => ?_)
  refine RW.assign rfl rfl ?_
  refine RW.nil (EX.seq (CW.seq (CW.block (CW.seq ?_))))
  -- mq: region
  refine CW.region ?_
  refine RW.fieldB fl37x2 rfl rfl ?_
  refine RW.loadB1 sc3 rfl rfl (by first | exact Has.head | exact Has.tail Has.head | exact Has.tail (Has.tail Has.head) | exact Has.tail (Has.tail (Has.tail Has.head)) | exact Has.tail (Has.tail (Has.tail (Has.tail Has.head))) | exact Has.tail (Has.tail (Has.tail (Has.tail (Has.tail Has.head)))) | exact Has.tail (Has.tail (Has.tail (Has.tail (Has.tail (Has.tail Has.head)))))) rfl ?_
  refine RW.eqlI rfl rfl rfl ?_
  refine RW.assign rfl rfl ?_
  refine RW.nil (EX.seq ?_)
  -- mq: cond
  first | refine CW.condD rfl (fun h1 => ?_) (fun h1 => ?_) | refine CW.cond rfl (fun h1 => ?_) (fun h1 => ?_)
  · skip
    refine CW.seq (CW.region ?_)
    refine RW.assign rfl rfl ?_
    refine RW.nil (EX.seq (CW.ret (EX.bkR (EX.seqR ?_))))
    refine EX.fin1 Try.results49 rfl (fun wz hw => ?_)
    -- mq: done
    exact ⟨by rw [cellT, if_pos h1] <;> rfl, hw.ext⟩
  · skip
    refine CW.seq (CW.region ?_)
    refine RW.fieldB fl37x0 rfl rfl ?_
    refine RW.loadB1 sc21 rfl rfl (by first | exact Has.head | exact Has.tail Has.head | exact Has.tail (Has.tail Has.head) | exact Has.tail (Has.tail (Has.tail Has.head)) | exact Has.tail (Has.tail (Has.tail (Has.tail Has.head))) | exact Has.tail (Has.tail (Has.tail (Has.tail (Has.tail Has.head)))) | exact Has.tail (Has.tail (Has.tail (Has.tail (Has.tail (Has.tail Has.head)))))) rfl ?_
    refine RW.eqlI rfl rfl rfl ?_
    refine RW.assign rfl rfl ?_
    refine RW.nil (EX.seq ?_)
    -- mq: cond
    first | refine CW.condD rfl (fun h2 => ?_) (fun h2 => ?_) | refine CW.cond rfl (fun h2 => ?_) (fun h2 => ?_)
    · skip
      refine CW.seq (CW.region ?_)
      refine RW.assign rfl rfl ?_
      refine RW.nil (EX.seq (CW.ret (EX.bkR (EX.seqR ?_))))
      refine EX.fin1 Try.results49 rfl (fun wz hw => ?_)
      -- mq: done
      exact ⟨by rw [cellT, if_neg h1, if_pos h2] <;> rfl, hw.ext⟩
    · skip
      refine CW.skip (EX.bkN (EX.seq (CW.seq ?_)))
      -- mq: region
      refine CW.drawU [0, 1, 3, 4] 1 [[(2, false, [5, 6])]] (Ch [blk g1 c.enc 37]) mixed (by kernel_rfl) (fun _ hw => hw.drew) (fun _ h => (by first | trivial | exact h | exact h.ch | exact (h.rem Rem.head).ch | exact ((h.rem Rem.head).rem Rem.head).ch | exact (((h.rem Rem.head).rem Rem.head).rem Rem.head).ch)) ?_
      refine QuP.cons rfl (fun wq hq => (RW.fieldB fl37x0 rfl rfl RW.jn)) ?_
      refine QuP.cons rfl (fun wq hq => (RW.load1 sc21 rfl rfl (fun w1 e1 => by subst e1; exact hq.blk_cell (by first | exact Has.head | exact Has.tail Has.head | exact Has.tail (Has.tail Has.head) | exact Has.tail (Has.tail (Has.tail Has.head)) | exact Has.tail (Has.tail (Has.tail (Has.tail Has.head))) | exact Has.tail (Has.tail (Has.tail (Has.tail (Has.tail Has.head)))) | exact Has.tail (Has.tail (Has.tail (Has.tail (Has.tail (Has.tail Has.head)))))) rfl) RW.jn)) ?_
      refine QuP.cons rfl (fun wq hq => (RW.fieldB fl37x1 rfl rfl RW.jn)) ?_
      refine QuP.cons rfl (fun wq hq => (RW.load1 sc9 rfl rfl (fun w1 e1 => by subst e1; exact hq.blk_cell (by first | exact Has.head | exact Has.tail Has.head | exact Has.tail (Has.tail Has.head) | exact Has.tail (Has.tail (Has.tail Has.head)) | exact Has.tail (Has.tail (Has.tail (Has.tail Has.head))) | exact Has.tail (Has.tail (Has.tail (Has.tail (Has.tail Has.head)))) | exact Has.tail (Has.tail (Has.tail (Has.tail (Has.tail (Has.tail Has.head)))))) rfl) RW.jn)) ?_
      refine QuP.nil ?_
      refine UW.step [_] rfl (List.forall_mem_cons.2 ⟨?_, by simp⟩)
      refine RW.call rfl ca56 rfl (fun w' _ => Put_c w' c.r) ?_
      refine RW.st (fun _ => True) (fun _ h => .inr (by first | trivial | exact h | exact h.ch | exact (h.rem Rem.head).ch | exact ((h.rem Rem.head).rem Rem.head).ch | exact (((h.rem Rem.head).rem Rem.head).rem Rem.head).ch)) (fun _ h => trivial) ?_
      refine QuP.cons rfl (fun wq hq => (RW.catS rfl rfl rfl (by first | omega | (simp only [List.length_append, List.length_cons, List.length_nil]; omega)) RW.jn)) ?_
      refine QuP.cons rfl (fun wq hq => (RW.assign rfl rfl RW.jn)) ?_
      refine QuP.nil ?_
      refine UW.nil (EX.seq (CW.ret ?_))
      refine EX.fin1 Try.results49 rfl (fun wz hw => ?_)
      -- mq: done
      exact ⟨by rw [cellT, if_neg h1, if_neg h2], hw.ext⟩
end Go.Proofs.Ytjmmikdbhhomiaa.Mq
