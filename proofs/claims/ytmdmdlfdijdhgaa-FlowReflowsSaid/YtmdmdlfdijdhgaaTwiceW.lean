/- walk of FlowTwice -/
import Derived.Test.YtmdmdlfdijdhgaaTwice1
import Derived.Test.YtmdmdlfdijdhgaaSplits
namespace Go.Proofs.Ytmdmdlfdijdhgaa.Mq
open Go Go.RowKit Go.Proofs

def IsReflow (out : List RowL) (ps : List PosV) (w : World) (v : Value) (w' : World) : Prop := ∃ A1 n1 c1 A2 n2 c2, v = .tuple #[.slice A1 n1 c1, .slice A2 n2 c2] ∧ RdRows w' (fun k => w.heap.size ≤ k) A1 n1 c1 out ∧ Rd EPos w' (fun k => w.heap.size ≤ k) A2 n2 c2 ps
theorem RetReflow.toA {w w' : World} {out : List RowL} {ps : List PosV} {e : Ending} (h : RetReflow w out ps e w') : RetA (IsReflow out ps w) w e w' := by
  obtain ⟨A1, n1, c1, A2, n2, c2, rfl, h1, h2, h3⟩ := h
  exact ⟨_, rfl, h1, A1, n1, c1, A2, n2, c2, rfl, h2, h3⟩
theorem u16_of {a : Int} (h : (Lit.int .u16 a).wf = true) : ∃ m : Nat, a = m ∧ m < 65536 := by
  have h : 0 ≤ a ∧ a ≤ 65535 := by simpa [Lit.wf, IntKind.min, IntKind.max, IntKind.signed, IntKind.bits] using h
  exact ⟨a.toNat, by omega, by omega⟩
theorem out_sizes (rows : List RowL) (x : Nat) (h : rows.length + sumLen rows ≤ 600) (hx1 : 2 ≤ x) (hx2 : x ≤ 100) :
    (outF rows x (linesL rows rows.length)).length ≤ 600 ∧ sumLen (outF rows x (linesL rows rows.length)) ≤ 60000 := by
  have h1 := outF_total (rows := rows) (cols := x) hx1
  refine ⟨by omega, ?_⟩
  rw [outF_sum]
  calc _ ≤ 600 * 100 := Nat.mul_le_mul (by omega) hx2
    _ = 60000 := rfl
theorem twice_c (w : World) (F : Nat → Prop) (A : Option Addr) (n c : Nat) (rows : List RowL) (hr : RdRows w F A n c rows) (hn0 : n ≤ 140737488351232) (hm0 : ∀ row ∈ rows, row.1.length ≤ 140737488351232) (a b : Nat) (ha : a < 65536) (hb : b < 65536) :
    Calls Try.prog 8 [.slice A n c, .int .u16 (a : Int), .int .u16 (b : Int)].toArray w (fun e w' => e = .returned (.bool true) ∧ Ext [] w w') := by
  have hl := hr.len
  refine calls (n := 51) Try.func8 rfl Try.ntmps8 rfl ?_
  refine CW.sub (H' := SH w [] []) ?_ (Sub.refl _) (fun x hx => SH.start' _ _ hx)
  refine CW.seq (CW.region ?_)
  refine RW.assign rfl rfl ?_
  refine RW.nil (EX.seq (CW.seq (CW.seq (CW.region ?_))))
  refine RW.move rfl rfl ?_
  -- mq: op 1: ('Op.call', ('Call.mk', ('Callee.value', ('Operand.func', '19')), ('arr', ('Operand.tmp', '15')), ('arr', '24'))) -> slot 16 ("law.go:98")
  refine RW.call rfl ca19 rfl (fun w' hw' => Great_c w' _ A n c rows (hr.ext hw'.ext (by simp)) hn0 hm0) ?_
  refine RW.move rfl rfl ?_
  -- mq: guard slot 17
  refine RW.casesB 17 rfl (fun h1 => ?_) (fun h1 => ?_)
  · skip
    refine RW.guardF rfl rfl rfl h1 ?_
    refine RW.guardF rfl rfl rfl h1 ?_
    refine RW.pickB rfl rfl h1 rfl ?_
    refine RW.nil (EX.seq ?_)
    -- mq: cond
    refine CW.condT rfl (rfl) ?_
    refine CW.seq (CW.region ?_)
    refine RW.call rfl ca10 rfl (fun w' _ => awake_c w') ?_
    refine RW.assign rfl rfl ?_
    refine RW.nil (EX.seq (CW.ret (EX.seqR ?_)))
    refine EX.fin1 Try.results8 rfl (fun wz hw => ?_)
    -- mq: done
    exact ⟨rfl, hw.ext⟩
  · skip
    refine RW.guardT rfl rfl h1 ?_
    -- mq: op 3: ('Op.call', ('Call.mk', ('Callee.value', ('Operand.func', '10')), ('arr',), ('arr',))) -> slot 18 ("law.go:98")
    refine RW.call rfl ca10 rfl (fun w' _ => awake_c w') ?_
    refine RW.guardT rfl rfl h1 ?_
    refine RW.not_ rfl rfl ?_
    refine RW.pickC rfl rfl h1 rfl ?_
    refine RW.nil (EX.seq ?_)
    -- mq: cond
    refine CW.condF rfl (rfl) ?_
    have hsz : n + sumLen rows ≤ 600 := by simpa using h1
    subst hl
    refine CW.skip (EX.seq (CW.seq ?_))
    -- mq: region
    obtain ⟨x, hx⟩ : ∃ x : Nat, x = 2 + a % 99 := ⟨_, rfl⟩
    obtain ⟨y, hy⟩ : ∃ y : Nat, y = 2 + b % 99 := ⟨_, rfl⟩
    refine CW.region ?_
    refine RW.move rfl rfl ?_
    refine RW.remN rfl rfl rfl (by omega) (by omega) ?_
    refine RW.convI rfl rfl Try.underlying57 Try.underlying3 (wrap64 (by omega) (by omega)) ?_
    refine RW.add (r := (x : Int)) rfl rfl rfl (by rw [wrap64 (by omega) (by omega)]; omega) ?_
    refine RW.move rfl rfl ?_
    refine RW.remN rfl rfl rfl (by omega) (by omega) ?_
    refine RW.convI rfl rfl Try.underlying57 Try.underlying3 (wrap64 (by omega) (by omega)) ?_
    refine RW.add (r := (y : Int)) rfl rfl rfl (by rw [wrap64 (by omega) (by omega)]; omega) ?_
    refine RW.assign rfl rfl ?_
    refine RW.assign rfl rfl ?_
    refine RW.nil (EX.seq (CW.seq ?_))
    -- mq: region
    refine CW.region ?_
    refine RW.move rfl rfl ?_
    refine RW.move rfl rfl ?_
    -- mq: at
    have hs := out_sizes rows x hsz (by omega) (by omega)
    refine RW.callA (R := fun w0 => IsReflow (outF rows x (linesL rows rows.length)) [] w0) rfl ca27 rfl (fun w' hw' => (Reflow_c w' F F A none rows.length c 0 0 rows [] x (hr.ext hw'.ext (by simp)) (Rd.nil EPos w' F 0 (by decide) none) hsz (by omega) (by simp) (by omega) (by omega)).mono (fun e w'' h => h.toA)) ?_
    rintro w0 w1 v hw0 he01 hw1 hlt5 ⟨A1, n1, c1, A2, n2, c2, rfl, hrd1, _⟩
    have hm1 := hrd1.len
    subst hm1
    refine RW.move rfl rfl ?_
    refine RW.extract rfl rfl rfl ?_
    refine RW.extract rfl rfl rfl ?_
    refine RW.assign rfl rfl ?_
    refine RW.assign rfl rfl ?_
    refine RW.nil (EX.seq (CW.seq ?_))
    -- mq: region
    refine CW.region ?_
    refine RW.move rfl rfl ?_
    refine RW.move rfl rfl ?_
    -- mq: at
    refine RW.callA (R := fun w0 => IsReflow (outF rows y (linesL rows rows.length)) [] w0) rfl ca27 rfl (fun w' hw' => ?_) ?_
    · have h := ReflowG_c w' _ F A1 none (outF rows x (linesL rows rows.length)).length c1 0 0 (outF rows x (linesL rows rows.length)) [] y (hrd1.ext hw'.ext (by simp [feet])) (Rd.nil EPos w' F 0 (by decide) none) (by omega) (by omega) (twice_flow rows x 600 (by omega) (fun ln => by
        have h1 := flowF_length (segOld rows ln)
        have h2 := sumLen_seg rows ln
        omega)) (by omega) (by simp) (by omega) (by omega)
      rw [twice_law rows x y (by omega)] at h
      exact h.mono (fun e w'' h => h.toA)
    rintro w2 w3 v hw2 he23 hw3 hlt6 ⟨A3, n3, c3, A4, n4, c4, rfl, hrd3, _⟩
    have hm3 := hrd3.len
    subst hm3
    have hr3 := (((hr.ext hw0.ext (by simp [feet])).ext he01 (by simp)).ext hw2.ext (by simp [feet])).ext he23 (by simp)
    refine RW.move rfl rfl ?_
    refine RW.extract rfl rfl rfl ?_
    refine RW.extract rfl rfl rfl ?_
    refine RW.assign rfl rfl ?_
    refine RW.assign rfl rfl ?_
    refine RW.nil (EX.seq (CW.seq ?_))
    -- mq: region
    refine CW.region ?_
    refine RW.move rfl rfl ?_
    refine RW.move rfl rfl ?_
    -- mq: at
    refine RW.callA (R := fun w0 => IsReflow (outF rows y (linesL rows rows.length)) [] w0) rfl ca27 rfl (fun w' hw' => (Reflow_c w' F F A none rows.length c 0 0 rows [] y (hr3.ext hw'.ext (by simp [feet])) (Rd.nil EPos w' F 0 (by decide) none) hsz (by omega) (by simp) (by omega) (by omega)).mono (fun e w'' h => h.toA)) ?_
    rintro w4 w5 v hw4 he45 hw5 hlt7 ⟨A5, n5, c5, A6, n6, c6, rfl, hrd5, _⟩
    have hm5 := hrd5.len
    subst hm5
    have hrd3' := (hrd3.ext hw4.ext (by simp [feet])).ext he45 (by simp)
    have hsy := out_sizes rows y hsz (by omega) (by omega)
    refine RW.move rfl rfl ?_
    refine RW.extract rfl rfl rfl ?_
    refine RW.extract rfl rfl rfl ?_
    refine RW.assign rfl rfl ?_
    refine RW.assign rfl rfl ?_
    refine RW.nil (EX.seq (CW.seq ?_))
    -- mq: region
    refine CW.region ?_
    refine RW.move rfl rfl ?_
    refine RW.move rfl rfl ?_
    -- mq: at
    refine RW.call rfl ca13 rfl (fun w' hw' => rowsSame_c w' _ _ _ _ _ _ _ _ _ (hrd3'.ext hw'.ext (by simp [feet])) (hrd5.ext hw'.ext (by simp [feet])) (by omega) (fun row hrow => Nat.le_trans (mem_sumLen hrow) (by omega))) ?_
    refine RW.assign rfl rfl ?_
    refine RW.nil (EX.seq (CW.ret ?_))
    refine EX.fin1 Try.results8 rfl (fun wz hw => ?_)
    -- mq: done
    exact ⟨rfl, (((((hw0.ext.trans0 he01).trans0 hw2.ext).trans0 he23).trans0 hw4.ext).trans0 he45).trans0 hw.ext⟩
end Go.Proofs.Ytmdmdlfdijdhgaa.Mq
