/- walks: the example, Great, ParamCleans -/
import Derived.Test.YtamchppifbilpaaDoorPm5
namespace Go.Proofs.YtamchppifbilpaaDoor.Mq
open Go Go.RowKit Go.Proofs

def IsParse (s : List UInt8) (w : World) (v : Value) (w' : World) : Prop :=
  if headB s = true then ∃ A n c, v = .tuple #[.slice A n c, .bool true] ∧ RdG w' (fun k => w.heap.size ≤ k) A n c (parseF s) else v = .tuple #[.slice none 0 0, .bool false]
theorem parseR.toA {w w' : World} {s : List UInt8} {e : Ending} (h : parseR w s e w') : RetA (IsParse s w) w e w' := by
  unfold parseR at h
  by_cases hh : headB s = true
  · rw [if_pos hh] at h
    obtain ⟨A, n, c, rfl, h1, h2⟩ := h
    exact ⟨_, rfl, h1, by rw [IsParse, if_pos hh]; exact ⟨A, n, c, rfl, h2⟩⟩
  · rw [if_neg hh] at h
    obtain ⟨rfl, h1⟩ := h
    exact ⟨_, rfl, h1, by rw [IsParse, if_neg hh]⟩
def exP : List UInt8 := [49, 59, 59, 51, 56, 58, 53]
theorem exP_head : headB exP = true := by decide
set_option maxRecDepth 100000 in
theorem exP_parse : parseF exP = [[1], [-1], [38, 5]] := by decide
theorem awake_c (w : World) : Calls Tryd.prog 5 [].toArray w (fun e w' => e = .returned (.bool true) ∧ Ext [] w w') := by
  refine calls (n := 16) Tryd.func5 rfl Tryd.ntmps5 rfl ?_
  refine CW.sub (H' := SH w [] []) ?_ (Sub.refl _) (fun x hx => SH.start' _ _ hx)
  refine CW.seq (CW.region ?_)
  refine RW.assign rfl rfl ?_
  refine RW.nil (EX.seq (CW.seq ?_))
  -- mq: region
  refine CW.region ?_
  -- mq: at
  refine RW.callA (R := fun w0 => IsParse exP w0) rfl ca7 rfl (fun w' _ => (Parse_c w' exP (by decide)).mono (fun e w'' h => h.toA)) ?_
  rintro w0 w1 v hw0 he01 hw1 hlt h
  rw [IsParse, if_pos exP_head, exP_parse] at h
  obtain ⟨A, n, c, rfl, hrd⟩ := h
  have hn := hrd.len
  have hx0 : Ext [] w w1 := hw0.ext.trans0 he01
  refine RW.move rfl rfl ?_
  refine RW.extract rfl rfl rfl ?_
  refine RW.extract rfl rfl rfl ?_
  refine RW.assign rfl rfl ?_
  refine RW.assign rfl rfl ?_
  refine RW.nil (EX.seq (CW.seq (CW.region ?_)))
  refine RW.move rfl rfl ?_
  refine RW.move rfl rfl ?_
  refine RW.guardT rfl rfl rfl ?_
  refine RW.move rfl rfl ?_
  refine RW.guardT rfl rfl rfl ?_
  refine RW.buildSlc sl29 rfl rfl rfl rfl (fun g10 hg10 hf10 => ?_)
  refine RW.guardT rfl rfl rfl ?_
  refine RW.buildSlc sl29 rfl rfl rfl rfl (fun g11 hg11 hf11 => ?_)
  refine RW.guardT rfl rfl rfl ?_
  refine RW.buildSlc sl29 rfl rfl rfl rfl (fun g12 hg12 hf12 => ?_)
  refine RW.guardT rfl rfl rfl ?_
  refine RW.buildSlc sl22 rfl rfl rfl rfl (fun g13 hg13 hf13 => ?_)
  refine RW.guardT rfl rfl rfl ?_
  -- mq: op 7: ('Op.call', ('Call.mk', ('Callee.value', ('Operand.func', '10')), ('arr', ('Operand.tmp', '9'), ('Operand.tmp', '13')), ('arr', '22', '22'))) -> slot 14 ("law.go:12")
  refine RW.call rfl ca10 rfl (fun w' hw' => Same_c w' (fun k => w0.heap.size ≤ k) (fun _ => True) _ _ _ _ _ _ [[1], [-1], [38, 5]] (hrd.ext hw'.ext (by simp [feet])) ?_ (by rw [← hn]; decide) (by simp)) ?_
  · have hro := Rd.of_blk (E := ESl) (L := [⟨some ⟨g10, 0, none⟩, 1, 1⟩, ⟨some ⟨g11, 0, none⟩, 1, 1⟩, ⟨some ⟨g12, 0, none⟩, 2, 2⟩]) hw' Has.head rfl (by show 3 ≤ maxLen; decide)
    have h1 := Rd.of_blk (E := EInt) (L := [1]) hw' (Has.tail (Has.tail (Has.tail Has.head))) rfl (by decide)
    have h2 := Rd.of_blk (E := EInt) (L := [-1]) hw' (Has.tail (Has.tail Has.head)) rfl (by decide)
    have h3 := Rd.of_blk (E := EInt) (L := [38, 5]) hw' (Has.tail Has.head) rfl (by decide)
    refine ⟨[⟨some ⟨g10, 0, none⟩, 1, 1⟩, ⟨some ⟨g11, 0, none⟩, 1, 1⟩, ⟨some ⟨g12, 0, none⟩, 2, 2⟩], hro.weak (fun _ _ => trivial), rfl, fun k s g hs hg => ?_⟩
    match k, hs, hg with
    | 0, hs, hg => simp at hs hg; subst hs; subst hg; exact h1.weak (fun _ _ => trivial)
    | 1, hs, hg => simp at hs hg; subst hs; subst hg; exact h2.weak (fun _ _ => trivial)
    | 2, hs, hg => simp at hs hg; subst hs; subst hg; exact h3.weak (fun _ _ => trivial)
    | k + 3, hs, hg => simp at hs
  refine RW.pickB rfl rfl rfl rfl ?_
  refine RW.assign rfl rfl ?_
  refine RW.nil (EX.seq (CW.ret ?_))
  refine EX.fin1 Tryd.results5 rfl (fun wz hw => ?_)
  -- mq: done
  exact ⟨rfl, hx0.trans0 (hw.ext.mono (fun x hx _ => by simp [feet] at hx))⟩
def greatB (gs : List (List Int)) : Bool := decide (60 < gs.length) || gs.any (fun g => decide (20 < g.length))
theorem Great_c (w : World) (F : Nat → Prop) (A : Option Addr) (n c : Nat) (gs : List (List Int)) (hr : RdG w F A n c gs) :
    Calls Tryd.prog 4 [.slice A n c].toArray w (fun e w' => e = .returned (.bool (greatB gs)) ∧ Ext [] w w') := by
  have hl := hr.len
  refine calls (n := 19) Tryd.func4 rfl Tryd.ntmps4 rfl ?_
  refine CW.sub (H' := SH w [] []) ?_ (Sub.refl _) (fun x hx => SH.start' _ _ hx)
  refine CW.seq (CW.region ?_)
  refine RW.assign rfl rfl ?_
  refine RW.nil (EX.seq (CW.seq (CW.seq (CW.region ?_))))
  refine RW.move rfl rfl ?_
  refine RW.lenSl Tryd.underlying22 rfl rfl ?_
  refine RW.gtr rfl rfl rfl ?_
  refine RW.nil (EX.seq ?_)
  -- mq: cond
  first | refine CW.condD rfl (fun h6 => ?_) (fun h6 => ?_) | refine CW.cond rfl (fun h6 => ?_) (fun h6 => ?_)
  · skip
    refine CW.seq (CW.region ?_)
    refine RW.assign rfl rfl ?_
    refine RW.nil (EX.seq (CW.ret (EX.seqR ?_)))
    refine EX.fin1 Tryd.results4 rfl (fun wz hw => ?_)
    -- mq: done
    exact ⟨by rw [greatB, decide_eq_true (by omega)]; rfl, hw.ext⟩
  · skip
    refine CW.skip (EX.seq (CW.seq (CW.seq (CW.region ?_))))
    refine RW.assign rfl rfl ?_
    refine RW.nil (EX.seq (CW.block ?_))
    -- mq: loop
    refine CW.loop (ι := Nat) (fun k => [(0, .slice A n c), (3, .int .i64 (k : Int))]) (fun _ => SH w [] []) (fun k => k ≤ n ∧ ∀ g ∈ gs.take k, g.length ≤ 20) (fun k => n - k) ?_ ?_
    · exact fun w hw => ⟨0, ⟨Nat.zero_le _, by simp⟩, (by repeat (first | exact Sub.nil | refine Sub.cons (by rfl) ?_)), hw⟩
    · rintro k ⟨hk, hall⟩
      refine CW.seq (CW.seq (CW.region ?_))
      refine RW.move rfl rfl ?_
      refine RW.move rfl rfl ?_
      refine RW.lenSl Tryd.underlying22 rfl rfl ?_
      refine RW.lss rfl rfl rfl ?_
      refine RW.nil (EX.seq ?_)
      -- mq: cond
      first | refine CW.condD rfl (fun hlt => ?_) (fun hlt => ?_) | refine CW.cond rfl (fun hlt => ?_) (fun hlt => ?_)
      · skip
        obtain ⟨g, hg⟩ : ∃ g, gs[k]? = some g := ⟨gs[k]'(by omega), List.getElem?_eq_getElem _⟩
        obtain ⟨ad, X, p, q, hA, _, hcell, hrd⟩ := hr.at_ hg
        have hgl := hrd.len
        refine CW.skip (EX.seq (CW.seq (CW.block (CW.seq (CW.region ?_)))))
        refine RW.move rfl rfl ?_
        refine RW.move rfl rfl ?_
        refine RW.ixAddr (q := k) sl22 rfl rfl rfl (by first | rfl | assumption) (by omega) (by omega) ?_
        refine RW.load1 sc29 rfl rfl (fun w' hw' => hw'.base_cell hcell (by simp)) ?_
        refine RW.lenSl Tryd.underlying29 rfl rfl ?_
        refine RW.gtr rfl rfl rfl ?_
        refine RW.nil (EX.seq ?_)
        -- mq: cond
        first | refine CW.condD rfl (fun h18 => ?_) (fun h18 => ?_) | refine CW.cond rfl (fun h18 => ?_) (fun h18 => ?_)
        · skip
          refine CW.seq (CW.region ?_)
          refine RW.assign rfl rfl ?_
          refine RW.nil (EX.seq (CW.ret (EX.bkR (EX.seqR (EX.lpR (EX.bkR (EX.seqR ?_)))))))
          refine EX.fin1 Tryd.results4 rfl (fun wz hw => ?_)
          -- mq: done
          refine ⟨?_, hw.ext⟩
          rw [greatB, Bool.or_comm, List.any_eq_true.2 ⟨g, List.mem_of_getElem? hg, decide_eq_true (by omega)⟩]; rfl
        · skip
          refine CW.skip (EX.bkN (EX.seq (CW.region ?_)))
          refine RW.move rfl rfl ?_
          refine RW.add rfl rfl rfl (wrap64 (by omega) (by omega)) ?_
          refine RW.assign rfl rfl ?_
          refine RW.nil ?_
          -- mq: loopend
          refine EX.lpN (k + 1) ⟨by omega, fun g' hg' => ?_⟩ (by omega) (by repeat (first | exact Sub.nil | refine Sub.cons (by rfl) ?_)) (fun w' hw' => hw')
          rw [take_snoc' hg] at hg'
          rcases List.mem_append.1 hg' with h | h
          · exact hall g' h
          · rw [List.mem_singleton.1 h]; omega
      · skip
        refine CW.exit (EX.seqE (EX.lpE (EX.bkE (EX.seq (CW.seq (CW.region ?_))))))
        refine RW.assign rfl rfl ?_
        refine RW.nil (EX.seq (CW.ret ?_))
        refine EX.fin1 Tryd.results4 rfl (fun wz hw => ?_)
        -- mq: done
        refine ⟨?_, hw.ext⟩
        rw [List.take_of_length_le (by omega)] at hall
        rw [greatB, decide_eq_false (by omega), Bool.false_or]
        congr 2
        symm
        rw [List.any_eq_false]
        intro g hg
        have := hall g hg
        simp; omega
theorem greatB_false {gs : List (List Int)} (h : greatB gs = false) : gs.length ≤ 60 ∧ ∀ g ∈ gs, g.length ≤ 20 := by
  simp only [greatB, Bool.or_eq_false_iff, decide_eq_false_iff_not, List.any_eq_false, decide_eq_true_eq] at h
  exact ⟨by omega, fun g hg => by have := h.2 g hg; omega⟩
end Go.Proofs.YtamchppifbilpaaDoor.Mq
