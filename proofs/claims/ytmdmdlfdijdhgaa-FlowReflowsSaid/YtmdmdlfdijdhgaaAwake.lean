/- walk of awake -/
import Derived.Test.YtmdmdlfdijdhgaaRef2
import Derived.Test.YtmdmdlfdijdhgaaCallA
namespace Go.Proofs.Ytmdmdlfdijdhgaa.Mq
open Go Go.RowKit Go.Proofs

def IsRows (L : List RowL) (w : World) (v : Value) (w' : World) : Prop := ∃ A n c, v = .slice A n c ∧ RdRows w' (fun k => w.heap.size ≤ k) A n c L
theorem RetRows.toA {w w' : World} {L : List RowL} {e : Ending} (h : RetRows w L e w') : RetA (IsRows L w) w e w' := by
  obtain ⟨A, n, c, h1, h2, h3⟩ := h
  exact ⟨_, h1, h2, A, n, c, rfl, h3⟩
def exL : List CellV := [⟨97, [], 0, zeroA⟩, ⟨98, [], 0, zeroA⟩, ⟨12354, [], 1, zeroA⟩, ⟨12354, [], 2, zeroA⟩, ⟨99, [], 0, zeroA⟩]
def exR : List RowL := [([⟨97, [], 0, zeroA⟩, ⟨98, [], 0, zeroA⟩, ⟨0, [], 3, zeroA⟩], false), ([⟨12354, [], 1, zeroA⟩, ⟨12354, [], 2, zeroA⟩, ⟨99, [], 0, zeroA⟩], true)]
theorem exS : splitF exL 3 = exR := by rfl
theorem exF : flowF exR = exL := by rfl
theorem awake_c (w : World) : Calls Try.prog 10 #[] w (fun e w' => e = .returned (.bool true) ∧ Ext [] w w') := by
  refine calls (n := 44) Try.func10 rfl Try.ntmps10 rfl ?_
  refine CW.sub (H' := SH w [] []) ?_ (Sub.refl _) (fun x hx => SH.start' _ _ hx)
  refine CW.seq (CW.region ?_)
  refine RW.assign rfl rfl ?_
  refine RW.nil (EX.seq (CW.seq (CW.region ?_)))
  refine RW.buildS bu34 rfl rfl rfl ?_
  refine RW.buildS bu34 rfl rfl rfl ?_
  refine RW.buildS bu34 rfl rfl rfl ?_
  refine RW.buildS bu34 rfl rfl rfl ?_
  refine RW.buildS bu34 rfl rfl rfl ?_
  refine RW.buildSlc sl22 rfl rfl rfl rfl (fun g8 hg8 hf8 => ?_)
  refine RW.assign rfl rfl ?_
  refine RW.nil (EX.seq (CW.seq (CW.region ?_)))
  refine RW.move rfl rfl ?_
  -- mq: op 1: ('Op.call', ('Call.mk', ('Callee.value', ('Operand.func', '11')), ('arr', ('Operand.tmp', '9'), ('Operand.const', ('Value.int', 'IntKind.i64', '3'))), ('arr', '22', '3'))) -> slot 10 ("law.go:14")
  refine RW.rebase (fun wa hwa => ?_)
  have hr0 := Rd.of_blk (E := ECell) (L := exL) (m := 5) hwa (show Has _ (blk g8 (ECell.all exL) 34) from Has.head) rfl (by simp only [maxLen]; decide)
  refine RW.callA (R := fun w0 => IsRows exR w0) rfl ca11 rfl (fun w' hw' => (Split_c w' _ _ 5 5 exL 3 (hr0.ext hw'.ext (by intro k hk; subst hk; simp)) (by decide) (by decide) (by decide)).mono (fun e w'' h => ?_)) ?_
  · rw [exS] at h; exact h.toA
  rintro w0 w1 v hw0 he01 hw1 hlt ⟨A, n, c, rfl, hrd⟩
  obtain rfl : 2 = n := hrd.len
  obtain ⟨ad, B, m, d, hA, hF, hcell, hrc⟩ := hrd.at_ (k := 0) rfl
  obtain rfl : 3 = m := hrc.len
  obtain ⟨ad2, B2, m2, d2, hA2, hF2, hcell2, hrc2⟩ := hrd.at_ (k := 1) rfl
  obtain rfl : ad = ad2 := by rw [hA] at hA2; simpa using hA2
  obtain ⟨bd, hB, hFB, hbc⟩ := hrc.at_ (k := 2) rfl
  refine RW.assign rfl rfl ?_
  refine RW.nil (EX.seq (CW.seq (CW.region ?_)))
  refine RW.move rfl rfl ?_
  refine RW.lenSl Try.underlying24 rfl rfl ?_
  refine RW.eqlI rfl rfl rfl ?_
  refine RW.move rfl rfl ?_
  refine RW.guardT rfl rfl rfl ?_
  refine RW.move rfl rfl ?_
  refine RW.guardT rfl rfl rfl ?_
  refine RW.ixAddr (q := 0) sl24 rfl rfl rfl (by first | rfl | assumption) (by omega) (by omega) ?_
  refine RW.guardT rfl rfl rfl ?_
  refine RW.fieldP fl45x0 rfl rfl ?_
  refine RW.guardT rfl rfl rfl ?_
  refine RW.load1 sc22 rfl rfl (fun w' hw' => hw'.base_cell (hcell 0 _ rfl) (by simp [feet])) ?_
  refine RW.guardT rfl rfl rfl ?_
  refine RW.lenSl Try.underlying22 rfl rfl ?_
  refine RW.guardT rfl rfl rfl ?_
  refine RW.eqlI rfl rfl rfl ?_
  refine RW.pickB rfl rfl rfl rfl ?_
  refine RW.move rfl rfl ?_
  refine RW.guardT rfl rfl rfl ?_
  refine RW.move rfl rfl ?_
  refine RW.guardT rfl rfl rfl ?_
  refine RW.ixAddr (q := 0) sl24 rfl rfl rfl (by first | rfl | assumption) (by omega) (by omega) ?_
  refine RW.guardT rfl rfl rfl ?_
  refine RW.fieldP fl45x0 rfl rfl ?_
  refine RW.guardT rfl rfl rfl ?_
  refine RW.load1 sc22 rfl rfl (fun w' hw' => hw'.base_cell (hcell 0 _ rfl) (by simp [feet])) ?_
  refine RW.guardT rfl rfl rfl ?_
  refine RW.ixAddr (q := 2) sl22 rfl rfl rfl (by first | rfl | assumption) (by omega) (by omega) ?_
  refine RW.guardT rfl rfl rfl ?_
  refine RW.fieldP fl34x2 rfl rfl ?_
  refine RW.guardT rfl rfl rfl ?_
  refine RW.load1 sc3 rfl rfl (fun w' hw' => hw'.base_cell (hbc 2 _ rfl) (by simp [feet])) ?_
  refine RW.guardT rfl rfl rfl ?_
  refine RW.eqlI rfl rfl rfl ?_
  refine RW.pickB rfl rfl rfl rfl ?_
  refine RW.move rfl rfl ?_
  refine RW.guardT rfl rfl rfl ?_
  refine RW.move rfl rfl ?_
  refine RW.guardT rfl rfl rfl ?_
  refine RW.ixAddr (q := 1) sl24 rfl rfl rfl (by first | rfl | assumption) (by omega) (by omega) ?_
  refine RW.guardT rfl rfl rfl ?_
  refine RW.fieldP fl45x1 rfl rfl ?_
  refine RW.guardT rfl rfl rfl ?_
  refine RW.load1 sc4 rfl rfl (fun w' hw' => hw'.base_cell (hcell2 1 _ rfl) (by simp [feet])) ?_
  refine RW.pickB rfl rfl rfl rfl ?_
  refine RW.move rfl rfl ?_
  refine RW.guardT rfl rfl rfl ?_
  refine RW.move rfl rfl ?_
  refine RW.guardT rfl rfl rfl ?_
  -- mq: op 29: ('Op.call', ('Call.mk', ('Callee.value', ('Operand.func', '17')), ('arr', ('Operand.tmp', '39')), ('arr', '24'))) -> slot 40 ("law.go:15")
  refine RW.callR rfl ca17 rfl (fun w' hw' => Flow_c w' _ A 2 c exR (hrd.ext hw'.ext (by simp [feet])) (by decide) (by decide)) (fun w2 w3 A3 n3 c3 hw2 he3 hw3 hrd3 => ?_)
  rw [exF] at hrd3
  obtain rfl : 5 = n3 := hrd3.len
  refine RW.guardT rfl rfl rfl ?_
  refine RW.move rfl rfl ?_
  refine RW.guardT rfl rfl rfl ?_
  -- mq: op 31: ('Op.call', ('Call.mk', ('Callee.value', ('Operand.func', '16')), ('arr', ('Operand.tmp', '40'), ('Operand.tmp', '41')), ('arr', '22', '22'))) -> slot 42 ("law.go:15")
  refine RW.call rfl ca16 rfl (fun w' hw' => refSame_c w' _ _ _ _ _ _ _ _ _ _ (hrd3.ext hw'.ext (by simp)) ((((((hr0.weak (fun k _ => trivial)).ext0 hw0.ext).ext0 he01).ext0 hw2.ext).ext0 he3).ext0 hw'.ext) (by decide)) ?_
  refine RW.pickB rfl rfl rfl rfl ?_
  refine RW.assign rfl rfl ?_
  refine RW.nil (EX.seq (CW.ret ?_))
  refine EX.fin1 Try.results10 rfl (fun wz hw => ?_)
  -- mq: done
  exact ⟨rfl, ((((hwa.ext.trans0 hw0.ext).trans0 he01).trans0 hw2.ext).trans0 he3).trans0 hw.ext⟩
end Go.Proofs.Ytmdmdlfdijdhgaa.Mq
