/- dump: blocks as plain data; their lines; unlike blocks have unlike lines; dump: small walks: Id, right, Right, Phase, Phases, places; dump: walks of told, Told (printed by gend2.py); dump: walks of data, Brief, the reference's Brief -/
import Derived.Test.YtnkdabjahmjdoaaDoorTd
import Derived.Test.YtnkdabjahmjdoaaDoorTn
import Derived.Test.YtnkdabjahmjdoaaDoorVals
import Derived.Test.YtnkdabjahmjdoaaDoorFu
import Derived.Test.YtnkdabjahmjdoaaDoorBld
import Derived.Test.YtnkdabjahmjdoaaDoorByt
namespace Go.Proofs.YtnkdabjahmjdoaaDoor.Mq
open Go Go.RowKit Go.Proofs

structure BlkV where
  id : Nat
  ph : Int
  r1 : Int
  c1 : Int
  r2 : Int
  c2 : Int
  r3 : Int
  c3 : Int
  r4 : Int
  c4 : Int
  r5 : Int
  c5 : Int
  code : Int
  has : Bool
  cut : Bool
  dir : List UInt8
  line : List UInt8
abbrev BlkV.cells (b : BlkV) : List Value := [.int .u64 (b.id : Int), .int .i64 b.ph, .int .i64 b.r1, .int .i64 b.c1, .int .i64 b.r2, .int .i64 b.c2, .int .i64 b.r3, .int .i64 b.c3, .int .i64 b.r4, .int .i64 b.c4, .int .i64 b.r5, .int .i64 b.c5, .int .i64 b.code, .bool b.has, .bool b.cut, .string (bs b.dir), .string (bs b.line)]
def EBlk : Enc BlkV := ⟨fun b => b.cells, 17, fun _ => rfl, fun _ => by repeat (first | exact Ones.nil | refine Ones.cons rfl ?_)⟩
def BlkV.pos (b : BlkV) : List (Int × Int) := [(b.r1, b.c1), (b.r2, b.c2), (b.r3, b.c3), (b.r4, b.c4), (b.r5, b.c5)]
/-- what a block's numbers may be -/
structure BlkV.Wf (b : BlkV) : Prop where
  id : b.id < 18446744073709551616
  code : In64 b.code
  pos : ∀ p ∈ b.pos, In64 p.1 ∧ In64 p.2
def phaseW (n : Int) : List UInt8 := if n = 0 then [117, 110, 109, 97, 114, 107, 101, 100] else if n = 1 then [112, 114, 111, 109, 112, 116] else if n = 2 then [105, 110, 112, 117, 116] else if n = 3 then [111, 117, 116, 112, 117, 116] else if n = 4 then [101, 110, 100, 101, 100] else []
def rightP (p : Int × Int) : Bool := decide (0 ≤ p.1 ∧ p.1 ≤ 1099511627776 ∧ 0 ≤ p.2 ∧ p.2 ≤ 1099511627776)
def toldB (b : BlkV) : Bool := decide (0 ≤ b.ph ∧ b.ph ≤ 4) && b.pos.all rightP && decide (b.dir.length ≤ 256) && decide (b.line.length ≤ 256) && (b.has || decide (b.code = 0))
def cutW (b : Bool) : List UInt8 := if b then [99, 117, 116] else [119, 104, 111, 108, 101]
def codeW (has : Bool) (n : Int) : List UInt8 := if has then Lib.itoa n else [45]
def posW (l : List (Int × Int)) : List (List UInt8) := l.flatMap (fun p => [Lib.itoa p.1, Lib.itoa p.2])
def wordsF (b : BlkV) : List (List UInt8) := [98, 108, 111, 99, 107] :: Lib.decDigits b.id :: phaseW b.ph :: cutW b.cut :: codeW b.has b.code :: (posW b.pos ++ [hexT b.dir, hexT b.line])
/-- a block's line -/
def lineF (b : BlkV) : List UInt8 := Lib.join (wordsF b) [32]
theorem toldB_iff {b : BlkV} : toldB b = true ↔ (0 ≤ b.ph ∧ b.ph ≤ 4) ∧ (∀ p ∈ b.pos, rightP p = true) ∧ b.dir.length ≤ 256 ∧ b.line.length ≤ 256 ∧ (b.has = true ∨ b.code = 0) := by
  unfold toldB
  simp only [Bool.and_eq_true, Bool.or_eq_true, decide_eq_true_eq, List.all_eq_true]
  constructor
  · rintro ⟨⟨⟨⟨h1, h2⟩, h3⟩, h4⟩, h5⟩; exact ⟨h1, h2, h3, h4, h5⟩
  · rintro ⟨h1, h2, h3, h4, h5⟩; exact ⟨⟨⟨⟨h1, h2⟩, h3⟩, h4⟩, h5⟩
theorem phaseW_no (n : Int) : (32 : UInt8) ∉ phaseW n := by unfold phaseW; repeat (first | decide | split)
theorem phaseW_inj {m n : Int} (hm : 0 ≤ m ∧ m ≤ 4) (hn : 0 ≤ n ∧ n ≤ 4) (h : phaseW m = phaseW n) : m = n := by
  have hm' : m = 0 ∨ m = 1 ∨ m = 2 ∨ m = 3 ∨ m = 4 := by omega
  have hn' : n = 0 ∨ n = 1 ∨ n = 2 ∨ n = 3 ∨ n = 4 := by omega
  rcases hm' with rfl | rfl | rfl | rfl | rfl <;> rcases hn' with rfl | rfl | rfl | rfl | rfl <;> first | rfl | (exact absurd h (by decide))
theorem wordsF_no (b : BlkV) : ∀ x ∈ wordsF b, (32 : UInt8) ∉ x := by
  intro x hx
  unfold wordsF at hx
  rcases List.mem_cons.1 hx with rfl | hx
  · decide
  rcases List.mem_cons.1 hx with rfl | hx
  · intro h; have := dec_digit _ _ h; revert this; decide
  rcases List.mem_cons.1 hx with rfl | hx
  · exact phaseW_no _
  rcases List.mem_cons.1 hx with rfl | hx
  · unfold cutW; split <;> decide
  rcases List.mem_cons.1 hx with rfl | hx
  · unfold codeW; split
    · exact itoa_no (by decide)
    · decide
  rcases List.mem_append.1 hx with hx | hx
  · obtain ⟨p, _, hp⟩ := List.mem_flatMap.1 hx
    simp only [List.mem_cons, List.not_mem_nil, or_false] at hp
    rcases hp with rfl | rfl
    · exact itoa_no (by decide)
    · exact itoa_no (by decide)
  · simp only [List.mem_cons, List.not_mem_nil, or_false] at hx
    rcases hx with rfl | rfl
    · exact hexT_no (by decide)
    · exact hexT_no (by decide)
theorem words_line (b : BlkV) : fullP 32 (lineF b) = wordsF b := full_join 32 _ (by unfold wordsF; simp) (wordsF_no b)
theorem codeW_inj {h k : Bool} {m n : Int} (hm : h = true ∨ m = 0) (hn : k = true ∨ n = 0) (e : codeW h m = codeW k n) : h = k ∧ m = n := by
  have key : ∀ n : Int, Lib.itoa n ≠ [45] := by
    intro n e
    by_cases h0 : n < 0
    · rw [itoa_lt h0] at e; exact dec_ne _ (List.cons.inj e).2
    · rw [itoa_pos (by omega)] at e
      have := dec_digit n.toNat 45 (by rw [e]; simp)
      revert this; decide
  unfold codeW at e
  cases h <;> cases k <;> simp only [if_true, if_false, Bool.false_eq_true] at e
  · exact ⟨rfl, by simp at hm hn; omega⟩
  · exact absurd e.symm (key _)
  · exact absurd e (key _)
  · exact ⟨rfl, itoa_inj e⟩
theorem lineF_inj {a b : BlkV} (ha : toldB a = true) (hb : toldB b = true) (h : lineF a = lineF b) : a = b := by
  have hw : wordsF a = wordsF b := by rw [← words_line a, ← words_line b, h]
  obtain ⟨a1, a2, a3, a4, a5⟩ := toldB_iff.1 ha
  obtain ⟨b1, b2, b3, b4, b5⟩ := toldB_iff.1 hb
  obtain ⟨a01, a02, a03, a04, a05, a06, a07, a08, a09, a10, a11, a12, a13, a14, a15, a16, a17⟩ := a
  obtain ⟨b01, b02, b03, b04, b05, b06, b07, b08, b09, b10, b11, b12, b13, b14, b15, b16, b17⟩ := b
  simp only [wordsF, posW, BlkV.pos, List.flatMap_cons, List.flatMap_nil, List.cons_append, List.nil_append, List.append_nil, List.cons.injEq, and_true, true_and] at hw
  obtain ⟨e1, e2, e3, e4, e5, e6, e7, e8, e9, e10, e11, e12, e13, e14, e15, e16⟩ := hw
  have hc := codeW_inj a5 b5 e4
  have hcut : a15 = b15 := by
    unfold cutW at e3
    cases a15 <;> cases b15 <;> first | rfl | (simp at e3)
  have hd : a16 = b16 := hexP_inj (List.cons.inj e15).2
  have hl : a17 = b17 := hexP_inj (List.cons.inj e16).2
  dsimp only at a1 b1 hc
  rw [dec_inj e1, phaseW_inj a1 b1 e2, itoa_inj e5, itoa_inj e6, itoa_inj e7, itoa_inj e8, itoa_inj e9, itoa_inj e10, itoa_inj e11, itoa_inj e12, itoa_inj e13, itoa_inj e14, hc.1, hc.2, hcut, hd, hl]
end Go.Proofs.YtnkdabjahmjdoaaDoor.Mq

namespace Go.Proofs.YtnkdabjahmjdoaaDoor.Mq
open Go Go.RowKit Go.Proofs

theorem wrapU64 {z : Int} (h1 : 0 ≤ z) (h2 : z < 18446744073709551616) : IntKind.u64.wrap z = z := by rw [IntKind.wrap_u64]; omega
theorem dec_len20 {u : Nat} (h : u < 18446744073709551616) : (Lib.decDigits u).length ≤ 20 := dec_len (k := 19) (by omega)
theorem refId_c : ∀ (m : Nat) (w : World) (n : Nat), n ≤ m → n < 18446744073709551616 →
    Calls Tryd.prog 25 [.int .u64 (n : Int)].toArray w (fun e w' => e = .returned (.string (bs (Lib.decDigits n))) ∧ Ext [] w w') := by
  intro m
  induction m using Nat.strongRecOn with
  | _ m ih =>
  intro w n hnm hn
  refine calls (n := 16) Tryd.func25 rfl Tryd.ntmps25 rfl ?_
  refine CW.sub (H' := SH w [] []) ?_ (Sub.refl _) (fun x hx => SH.start' _ _ hx)
  refine CW.seq (CW.region ?_)
  refine RW.assign rfl rfl ?_
  refine RW.nil (EX.seq (CW.seq (CW.seq (CW.region ?_))))
  refine RW.move rfl rfl ?_
  refine RW.lss rfl rfl rfl ?_
  refine RW.nil (EX.seq ?_)
  -- mq: cond
  first | refine CW.condD rfl (fun h0 => ?_) (fun h0 => ?_) | refine CW.cond rfl (fun h0 => ?_) (fun h0 => ?_)
  · skip
    refine CW.seq (CW.region ?_)
    refine RW.move rfl rfl ?_
    refine RW.convI rfl rfl Tryd.underlying22 Tryd.underlying3 (wrap64 (by omega) (by omega)) ?_
    refine RW.call rfl ca40 rfl (fun w' _ => refDigits_c w' n (by omega)) ?_
    refine RW.assign rfl rfl ?_
    refine RW.nil (EX.seq (CW.ret (EX.seqR ?_)))
    refine EX.fin1 Tryd.results25 rfl (fun wz hw => ?_)
    -- mq: done
    exact ⟨rfl, hw.ext⟩
  · skip
    have hl1 := dec_len20 (u := n / 10) (by omega)
    have hl2 := dec_len20 (u := n % 10) (by omega)
    refine CW.skip (EX.seq (CW.seq (CW.region ?_)))
    refine RW.move rfl rfl ?_
    refine RW.quo (r := ((n / 10 : Nat) : Int)) rfl rfl rfl (by decide) (wrapU64 (z := ((n / 10 : Nat) : Int)) (by omega) (by omega)) ?_
    refine RW.call rfl ca25 rfl (fun w' _ => ih (n / 10) (by omega) w' (n / 10) (Nat.le_refl _) (by omega)) ?_
    refine RW.move rfl rfl ?_
    refine RW.remN rfl rfl rfl (by omega) (by omega) ?_
    refine RW.convI rfl rfl Tryd.underlying22 Tryd.underlying3 (wrap64 (by omega) (by omega)) ?_
    refine RW.call rfl ca40 rfl (fun w' _ => refDigits_c w' (n % 10) (by omega)) ?_
    refine RW.catS rfl rfl rfl (by first | omega | (simp only [List.length_append, List.length_cons, List.length_nil]; omega)) ?_
    refine RW.assign rfl rfl ?_
    refine RW.nil (EX.seq (CW.ret ?_))
    refine EX.fin1 Tryd.results25 rfl (fun wz hw => ?_)
    -- mq: done
    refine ⟨?_, hw.ext⟩
    rw [dec_big (u := n) (by omega), dec_small (u := n % 10) (by omega)]
abbrev posV (p : Int × Int) : Value := .agg [.int .i64 p.1, .int .i64 p.2].toArray
theorem right_c (w : World) (a b : Int) : Calls Tryd.prog 53 [posV (a, b)].toArray w (fun e w' => e = .returned (.bool (rightP (a, b))) ∧ Ext [] w w') := by
  refine calls (n := 21) Tryd.func53 rfl Tryd.ntmps53 rfl ?_
  refine CW.sub (H' := SH w [] []) ?_ (Sub.refl _) (fun x hx => SH.start' _ _ hx)
  refine CW.seq (CW.region ?_)
  refine RW.boxA rfl rfl (fun g1 hg1 hf1 => ?_)
  refine RW.assign rfl rfl ?_
  refine RW.nil (EX.seq (CW.seq (CW.region ?_)))
  refine RW.fieldB fl24x0 rfl rfl ?_
  refine RW.loadB1 sc3 rfl rfl (by first | exact Has.head | exact Has.tail Has.head | exact Has.tail (Has.tail Has.head) | exact Has.tail (Has.tail (Has.tail Has.head)) | exact Has.tail (Has.tail (Has.tail (Has.tail Has.head))) | exact Has.tail (Has.tail (Has.tail (Has.tail (Has.tail Has.head)))) | exact Has.tail (Has.tail (Has.tail (Has.tail (Has.tail (Has.tail Has.head)))))) rfl ?_
  refine RW.geq rfl rfl rfl ?_
  refine RW.move rfl rfl ?_
  -- mq: guard slot 6
  refine RW.casesB 6 rfl (fun h1 => ?_) (fun h1 => ?_)
  · skip
    have h1p := of_decide_eq_true h1
    refine RW.guardT rfl rfl h1 ?_
    refine RW.fieldB fl24x0 rfl rfl ?_
    refine RW.guardT rfl rfl h1 ?_
    refine RW.loadB1 sc3 rfl rfl (by first | exact Has.head | exact Has.tail Has.head | exact Has.tail (Has.tail Has.head) | exact Has.tail (Has.tail (Has.tail Has.head)) | exact Has.tail (Has.tail (Has.tail (Has.tail Has.head))) | exact Has.tail (Has.tail (Has.tail (Has.tail (Has.tail Has.head)))) | exact Has.tail (Has.tail (Has.tail (Has.tail (Has.tail (Has.tail Has.head)))))) rfl ?_
    refine RW.guardT rfl rfl h1 ?_
    refine RW.leq rfl rfl rfl ?_
    refine RW.pickB rfl rfl h1 rfl ?_
    refine RW.move rfl rfl ?_
    -- mq: guard slot 11
    refine RW.casesB 11 rfl (fun h2 => ?_) (fun h2 => ?_)
    · skip
      have h2p := of_decide_eq_true h2
      refine RW.guardT rfl rfl h2 ?_
      refine RW.fieldB fl24x1 rfl rfl ?_
      refine RW.guardT rfl rfl h2 ?_
      refine RW.loadB1 sc3 rfl rfl (by first | exact Has.head | exact Has.tail Has.head | exact Has.tail (Has.tail Has.head) | exact Has.tail (Has.tail (Has.tail Has.head)) | exact Has.tail (Has.tail (Has.tail (Has.tail Has.head))) | exact Has.tail (Has.tail (Has.tail (Has.tail (Has.tail Has.head)))) | exact Has.tail (Has.tail (Has.tail (Has.tail (Has.tail (Has.tail Has.head)))))) rfl ?_
      refine RW.guardT rfl rfl h2 ?_
      refine RW.geq rfl rfl rfl ?_
      refine RW.pickB rfl rfl h2 rfl ?_
      refine RW.move rfl rfl ?_
      -- mq: guard slot 16
      refine RW.casesB 16 rfl (fun h3 => ?_) (fun h3 => ?_)
      · skip
        have h3p := of_decide_eq_true h3
        refine RW.guardT rfl rfl h3 ?_
        refine RW.fieldB fl24x1 rfl rfl ?_
        refine RW.guardT rfl rfl h3 ?_
        refine RW.loadB1 sc3 rfl rfl (by first | exact Has.head | exact Has.tail Has.head | exact Has.tail (Has.tail Has.head) | exact Has.tail (Has.tail (Has.tail Has.head)) | exact Has.tail (Has.tail (Has.tail (Has.tail Has.head))) | exact Has.tail (Has.tail (Has.tail (Has.tail (Has.tail Has.head)))) | exact Has.tail (Has.tail (Has.tail (Has.tail (Has.tail (Has.tail Has.head)))))) rfl ?_
        refine RW.guardT rfl rfl h3 ?_
        refine RW.leq rfl rfl rfl ?_
        refine RW.pickB rfl rfl h3 rfl ?_
        refine RW.assign rfl rfl ?_
        refine RW.nil (EX.seq (CW.ret ?_))
        refine EX.fin1 Tryd.results53 rfl (fun wz hw => ?_)
        -- mq: done
        refine ⟨?_, hw.ext⟩
        unfold rightP
        congr 2
        rw [decide_eq_decide]; omega
      · skip
        have h3p := of_decide_eq_false h3
        refine RW.guardF rfl rfl rfl h3 ?_
        refine RW.guardF rfl rfl rfl h3 ?_
        refine RW.guardF rfl rfl rfl h3 ?_
        refine RW.pickC rfl rfl h3 rfl ?_
        refine RW.assign rfl rfl ?_
        refine RW.nil (EX.seq (CW.ret ?_))
        refine EX.fin1 Tryd.results53 rfl (fun wz hw => ?_)
        -- mq: done
        refine ⟨?_, hw.ext⟩
        unfold rightP
        congr 2
        rw [eq_comm, decide_eq_false_iff_not]; omega
    · skip
      have h2p := of_decide_eq_false h2
      refine RW.guardF rfl rfl rfl h2 ?_
      refine RW.guardF rfl rfl rfl h2 ?_
      refine RW.guardF rfl rfl rfl h2 ?_
      refine RW.pickC rfl rfl h2 rfl ?_
      refine RW.move rfl rfl ?_
      refine RW.guardF rfl rfl rfl rfl ?_
      refine RW.guardF rfl rfl rfl rfl ?_
      refine RW.guardF rfl rfl rfl rfl ?_
      refine RW.pickC rfl rfl rfl rfl ?_
      refine RW.assign rfl rfl ?_
      refine RW.nil (EX.seq (CW.ret ?_))
      refine EX.fin1 Tryd.results53 rfl (fun wz hw => ?_)
      -- mq: done
      refine ⟨?_, hw.ext⟩
      unfold rightP
      congr 2
      rw [eq_comm, decide_eq_false_iff_not]; omega
  · skip
    have h1p := of_decide_eq_false h1
    refine RW.guardF rfl rfl rfl h1 ?_
    refine RW.guardF rfl rfl rfl h1 ?_
    refine RW.guardF rfl rfl rfl h1 ?_
    refine RW.pickC rfl rfl h1 rfl ?_
    refine RW.move rfl rfl ?_
    refine RW.guardF rfl rfl rfl rfl ?_
    refine RW.guardF rfl rfl rfl rfl ?_
    refine RW.guardF rfl rfl rfl rfl ?_
    refine RW.pickC rfl rfl rfl rfl ?_
    refine RW.move rfl rfl ?_
    refine RW.guardF rfl rfl rfl rfl ?_
    refine RW.guardF rfl rfl rfl rfl ?_
    refine RW.guardF rfl rfl rfl rfl ?_
    refine RW.pickC rfl rfl rfl rfl ?_
    refine RW.assign rfl rfl ?_
    refine RW.nil (EX.seq (CW.ret ?_))
    refine EX.fin1 Tryd.results53 rfl (fun wz hw => ?_)
    -- mq: done
    refine ⟨?_, hw.ext⟩
    unfold rightP
    congr 2
    rw [eq_comm, decide_eq_false_iff_not]; omega
theorem refRight_c (w : World) (a : Int) : Calls Tryd.prog 32 [.int .i64 a].toArray w (fun e w' => e = .returned (.bool (decide (0 ≤ a ∧ a ≤ 1099511627776))) ∧ Ext [] w w') := by
  refine calls (n := 9) Tryd.func32 rfl Tryd.ntmps32 rfl ?_
  refine CW.sub (H' := SH w [] []) ?_ (Sub.refl _) (fun x hx => SH.start' _ _ hx)
  refine CW.seq (CW.region ?_)
  refine RW.assign rfl rfl ?_
  refine RW.nil (EX.seq (CW.seq (CW.region ?_)))
  refine RW.move rfl rfl ?_
  refine RW.geq rfl rfl rfl ?_
  refine RW.move rfl rfl ?_
  -- mq: guard slot 5
  refine RW.casesB 5 rfl (fun h1 => ?_) (fun h1 => ?_)
  · skip
    have h1p := of_decide_eq_true h1
    refine RW.guardT rfl rfl h1 ?_
    refine RW.move rfl rfl ?_
    refine RW.guardT rfl rfl h1 ?_
    refine RW.leq rfl rfl rfl ?_
    refine RW.pickB rfl rfl h1 rfl ?_
    refine RW.assign rfl rfl ?_
    refine RW.nil (EX.seq (CW.ret ?_))
    refine EX.fin1 Tryd.results32 rfl (fun wz hw => ?_)
    -- mq: done
    refine ⟨?_, hw.ext⟩
    congr 2
    rw [decide_eq_decide]; omega
  · skip
    have h1p := of_decide_eq_false h1
    refine RW.guardF rfl rfl rfl h1 ?_
    refine RW.guardF rfl rfl rfl h1 ?_
    refine RW.pickC rfl rfl h1 rfl ?_
    refine RW.assign rfl rfl ?_
    refine RW.nil (EX.seq (CW.ret ?_))
    refine EX.fin1 Tryd.results32 rfl (fun wz hw => ?_)
    -- mq: done
    refine ⟨?_, hw.ext⟩
    congr 2
    rw [eq_comm, decide_eq_false_iff_not]; omega
theorem phase_c (w : World) (n : Int) : Calls Tryd.prog 11 [.int .i64 n].toArray w (fun e w' => e = .returned (.tuple #[.string (bs (phaseW n)), .bool (decide (0 ≤ n ∧ n ≤ 4))]) ∧ Ext [] w w') := by
  refine calls (n := 15) Tryd.func11 rfl Tryd.ntmps11 rfl ?_
  refine CW.sub (H' := SH w [] []) ?_ (Sub.refl _) (fun x hx => SH.start' _ _ hx)
  refine CW.seq (CW.region ?_)
  refine RW.assign rfl rfl ?_
  refine RW.assign rfl rfl ?_
  refine RW.nil (EX.seq (CW.seq (CW.region ?_)))
  refine RW.buildR ba50 rfl rfl rfl ?_
  refine RW.allocA ag50 rfl (fun g4 hg4 hf4 => ?_)
  refine RW.storeA ag50 rfl rfl (by first | exact Upd.head | exact Upd.tail Upd.head | exact Upd.tail (Upd.tail Upd.head) | exact Upd.tail (Upd.tail (Upd.tail Upd.head)) | exact Upd.tail (Upd.tail (Upd.tail (Upd.tail Upd.head))) | exact Upd.tail (Upd.tail (Upd.tail (Upd.tail (Upd.tail Upd.head)))) | exact Upd.tail (Upd.tail (Upd.tail (Upd.tail (Upd.tail (Upd.tail Upd.head)))))) (by first | rfl | exact Enc.len _ _) (by repeat (first | exact Ones.nil | exact Enc.ones _ _ | refine Ones.cons rfl ?_)) (by first | exact Nat.le_of_ble_eq_true rfl | (simp only [Enc.len]; decide)) ?_
  refine RW.nil (EX.seq (CW.seq (CW.seq (CW.region ?_))))
  refine RW.move rfl rfl ?_
  refine RW.lss rfl rfl rfl ?_
  refine RW.move rfl rfl ?_
  -- mq: guard slot 8
  refine RW.casesB 8 rfl (fun h1 => ?_) (fun h1 => ?_)
  · skip
    have h1p := of_decide_eq_true h1
    refine RW.guardF rfl rfl rfl h1 ?_
    refine RW.guardF rfl rfl rfl h1 ?_
    refine RW.pickB rfl rfl h1 rfl ?_
    refine RW.nil (EX.seq ?_)
    -- mq: cond
    refine CW.condT rfl (rfl) ?_
    refine CW.seq (CW.region ?_)
    refine RW.assign rfl rfl ?_
    refine RW.assign rfl rfl ?_
    refine RW.nil (EX.seq (CW.ret (EX.seqR ?_)))
    refine EX.fin2 Tryd.results11 rfl rfl (fun wz hw => ?_)
    -- mq: done
    refine ⟨?_, hw.ext⟩
    rw [decide_eq_false (by omega), phaseW, if_neg (by omega), if_neg (by omega), if_neg (by omega), if_neg (by omega), if_neg (by omega)]
  · skip
    have h1p := of_decide_eq_false h1
    refine RW.guardT rfl rfl h1 ?_
    refine RW.move rfl rfl ?_
    refine RW.guardT rfl rfl h1 ?_
    refine RW.geq rfl rfl rfl ?_
    refine RW.pickC rfl rfl h1 rfl ?_
    refine RW.nil (EX.seq ?_)
    -- mq: cond
    first | refine CW.condD rfl (fun h2 => ?_) (fun h2 => ?_) | refine CW.cond rfl (fun h2 => ?_) (fun h2 => ?_)
    · skip
      refine CW.seq (CW.region ?_)
      refine RW.assign rfl rfl ?_
      refine RW.assign rfl rfl ?_
      refine RW.nil (EX.seq (CW.ret (EX.seqR ?_)))
      refine EX.fin2 Tryd.results11 rfl rfl (fun wz hw => ?_)
      -- mq: done
      refine ⟨?_, hw.ext⟩
      rw [decide_eq_false (by omega), phaseW, if_neg (by omega), if_neg (by omega), if_neg (by omega), if_neg (by omega), if_neg (by omega)]
    · skip
      rcases (show n = 0 ∨ n = 1 ∨ n = 2 ∨ n = 3 ∨ n = 4 by omega) with rfl | rfl | rfl | rfl | rfl
      · skip
        refine CW.skip (EX.seq (CW.seq (CW.region ?_)))
        refine RW.move rfl rfl ?_
        refine RW.ixArr (q := 0) Tryd.underlying50 ar50 rfl rfl rfl (by omega) (by omega) ?_
        -- mq: at
        refine RW.loadB1 sc9 rfl rfl (by first | exact Has.head | exact Has.tail Has.head | exact Has.tail (Has.tail Has.head) | exact Has.tail (Has.tail (Has.tail Has.head)) | exact Has.tail (Has.tail (Has.tail (Has.tail Has.head))) | exact Has.tail (Has.tail (Has.tail (Has.tail (Has.tail Has.head)))) | exact Has.tail (Has.tail (Has.tail (Has.tail (Has.tail (Has.tail Has.head)))))) rfl ?_
        refine RW.assign rfl rfl ?_
        refine RW.assign rfl rfl ?_
        refine RW.nil (EX.seq (CW.ret ?_))
        refine EX.fin2 Tryd.results11 rfl rfl (fun wz hw => ?_)
        -- mq: done
        exact ⟨rfl, hw.ext⟩
      · skip
        refine CW.skip (EX.seq (CW.seq (CW.region ?_)))
        refine RW.move rfl rfl ?_
        refine RW.ixArr (q := 1) Tryd.underlying50 ar50 rfl rfl rfl (by omega) (by omega) ?_
        -- mq: at
        refine RW.loadB1 sc9 rfl rfl (by first | exact Has.head | exact Has.tail Has.head | exact Has.tail (Has.tail Has.head) | exact Has.tail (Has.tail (Has.tail Has.head)) | exact Has.tail (Has.tail (Has.tail (Has.tail Has.head))) | exact Has.tail (Has.tail (Has.tail (Has.tail (Has.tail Has.head)))) | exact Has.tail (Has.tail (Has.tail (Has.tail (Has.tail (Has.tail Has.head)))))) rfl ?_
        refine RW.assign rfl rfl ?_
        refine RW.assign rfl rfl ?_
        refine RW.nil (EX.seq (CW.ret ?_))
        refine EX.fin2 Tryd.results11 rfl rfl (fun wz hw => ?_)
        -- mq: done
        exact ⟨rfl, hw.ext⟩
      · skip
        refine CW.skip (EX.seq (CW.seq (CW.region ?_)))
        refine RW.move rfl rfl ?_
        refine RW.ixArr (q := 2) Tryd.underlying50 ar50 rfl rfl rfl (by omega) (by omega) ?_
        -- mq: at
        refine RW.loadB1 sc9 rfl rfl (by first | exact Has.head | exact Has.tail Has.head | exact Has.tail (Has.tail Has.head) | exact Has.tail (Has.tail (Has.tail Has.head)) | exact Has.tail (Has.tail (Has.tail (Has.tail Has.head))) | exact Has.tail (Has.tail (Has.tail (Has.tail (Has.tail Has.head)))) | exact Has.tail (Has.tail (Has.tail (Has.tail (Has.tail (Has.tail Has.head)))))) rfl ?_
        refine RW.assign rfl rfl ?_
        refine RW.assign rfl rfl ?_
        refine RW.nil (EX.seq (CW.ret ?_))
        refine EX.fin2 Tryd.results11 rfl rfl (fun wz hw => ?_)
        -- mq: done
        exact ⟨rfl, hw.ext⟩
      · skip
        refine CW.skip (EX.seq (CW.seq (CW.region ?_)))
        refine RW.move rfl rfl ?_
        refine RW.ixArr (q := 3) Tryd.underlying50 ar50 rfl rfl rfl (by omega) (by omega) ?_
        -- mq: at
        refine RW.loadB1 sc9 rfl rfl (by first | exact Has.head | exact Has.tail Has.head | exact Has.tail (Has.tail Has.head) | exact Has.tail (Has.tail (Has.tail Has.head)) | exact Has.tail (Has.tail (Has.tail (Has.tail Has.head))) | exact Has.tail (Has.tail (Has.tail (Has.tail (Has.tail Has.head)))) | exact Has.tail (Has.tail (Has.tail (Has.tail (Has.tail (Has.tail Has.head)))))) rfl ?_
        refine RW.assign rfl rfl ?_
        refine RW.assign rfl rfl ?_
        refine RW.nil (EX.seq (CW.ret ?_))
        refine EX.fin2 Tryd.results11 rfl rfl (fun wz hw => ?_)
        -- mq: done
        exact ⟨rfl, hw.ext⟩
      · skip
        refine CW.skip (EX.seq (CW.seq (CW.region ?_)))
        refine RW.move rfl rfl ?_
        refine RW.ixArr (q := 4) Tryd.underlying50 ar50 rfl rfl rfl (by omega) (by omega) ?_
        -- mq: at
        refine RW.loadB1 sc9 rfl rfl (by first | exact Has.head | exact Has.tail Has.head | exact Has.tail (Has.tail Has.head) | exact Has.tail (Has.tail (Has.tail Has.head)) | exact Has.tail (Has.tail (Has.tail (Has.tail Has.head))) | exact Has.tail (Has.tail (Has.tail (Has.tail (Has.tail Has.head)))) | exact Has.tail (Has.tail (Has.tail (Has.tail (Has.tail (Has.tail Has.head)))))) rfl ?_
        refine RW.assign rfl rfl ?_
        refine RW.assign rfl rfl ?_
        refine RW.nil (EX.seq (CW.ret ?_))
        refine EX.fin2 Tryd.results11 rfl rfl (fun wz hw => ?_)
        -- mq: done
        exact ⟨rfl, hw.ext⟩
def phasesL : List (List UInt8) := [phaseW 0, phaseW 1, phaseW 2, phaseW 3, phaseW 4]
theorem phasesL_at {n : Nat} (h : n ≤ 4) : phasesL[n]? = some (phaseW (n : Int)) := by
  rcases (show n = 0 ∨ n = 1 ∨ n = 2 ∨ n = 3 ∨ n = 4 by omega) with rfl | rfl | rfl | rfl | rfl <;> rfl
theorem phases_c (w : World) : Calls Tryd.prog 14 [].toArray w (RetSl EStr w phasesL) := by
  refine calls (n := 2) Tryd.func14 rfl Tryd.ntmps14 rfl ?_
  refine CW.sub (H' := SH w [] []) ?_ (Sub.refl _) (fun x hx => SH.start' _ _ hx)
  refine CW.seq (CW.region ?_)
  refine RW.assign rfl rfl ?_
  refine RW.nil (EX.seq (CW.seq (CW.region ?_)))
  refine RW.buildSlc sl33 rfl rfl rfl rfl (fun g1 hg1 hf1 => ?_)
  refine RW.assign rfl rfl ?_
  refine RW.nil (EX.seq (CW.ret ?_))
  refine EX.fin1 Tryd.results14 rfl (fun wz hw => ?_)
  -- mq: done
  have hrd := Rd.of_blk (E := EStr) (L := phasesL) hw Has.head rfl (by decide)
  exact ⟨_, _, _, rfl, hw.ext, hrd.weak (fun k hk => by rw [hk]; assumption)⟩
def ptrs (g : Nat) : List Value := [.pointer (some ⟨g, 2, none⟩), .pointer (some ⟨g, 4, none⟩), .pointer (some ⟨g, 6, none⟩), .pointer (some ⟨g, 8, none⟩), .pointer (some ⟨g, 10, none⟩)]
theorem places_c (w : World) (g : Nat) : Calls Tryd.prog 28 [.pointer (some ⟨g, 0, none⟩)].toArray w (fun e w' => e = .returned (.agg (ptrs g).toArray) ∧ Ext [] w w') := by
  refine calls (n := 19) Tryd.func28 rfl Tryd.ntmps28 rfl ?_
  refine CW.sub (H' := SH w [] []) ?_ (Sub.refl _) (fun x hx => SH.start' _ _ hx)
  refine CW.seq (CW.region ?_)
  refine RW.allocA ag56 rfl (fun g2 hg2 hf2 => ?_)
  refine RW.nil (EX.seq (CW.seq ?_))
  -- mq: region
  refine CW.drawU [0, 1, 2, 3, 4, 5, 6, 7, 8, 9, 10, 11, 12, 13, 14, 15] 1 [[(16, false, [])]] (fun _ => True) mixed (by kernel_rfl) (fun _ hw => hw.drew) (fun _ h => (by first | trivial | exact h | exact h.ch | exact (h.rem Rem.head).ch | exact ((h.rem Rem.head).rem Rem.head).ch | exact (((h.rem Rem.head).rem Rem.head).rem Rem.head).ch)) ?_
  refine QuP.cons rfl (fun wq hq => (RW.move rfl rfl RW.jn)) ?_
  refine QuP.cons rfl (fun wq hq => (RW.nilChk rfl rfl RW.jn)) ?_
  refine QuP.cons rfl (fun wq hq => (RW.fieldB fl26x2 rfl rfl RW.jn)) ?_
  refine QuP.cons rfl (fun wq hq => (RW.move rfl rfl RW.jn)) ?_
  refine QuP.cons rfl (fun wq hq => (RW.nilChk rfl rfl RW.jn)) ?_
  refine QuP.cons rfl (fun wq hq => (RW.fieldB fl26x3 rfl rfl RW.jn)) ?_
  refine QuP.cons rfl (fun wq hq => (RW.move rfl rfl RW.jn)) ?_
  refine QuP.cons rfl (fun wq hq => (RW.nilChk rfl rfl RW.jn)) ?_
  refine QuP.cons rfl (fun wq hq => (RW.fieldB fl26x4 rfl rfl RW.jn)) ?_
  refine QuP.cons rfl (fun wq hq => (RW.move rfl rfl RW.jn)) ?_
  refine QuP.cons rfl (fun wq hq => (RW.nilChk rfl rfl RW.jn)) ?_
  refine QuP.cons rfl (fun wq hq => (RW.fieldB fl26x5 rfl rfl RW.jn)) ?_
  refine QuP.cons rfl (fun wq hq => (RW.move rfl rfl RW.jn)) ?_
  refine QuP.cons rfl (fun wq hq => (RW.nilChk rfl rfl RW.jn)) ?_
  refine QuP.cons rfl (fun wq hq => (RW.fieldB fl26x6 rfl rfl RW.jn)) ?_
  refine QuP.cons rfl (fun wq hq => (RW.buildR ba56 rfl rfl rfl RW.jn)) ?_
  refine QuP.nil ?_
  refine UW.step [_] rfl (List.forall_mem_cons.2 ⟨?_, by simp⟩)
  refine RW.storeA ag56 rfl rfl (by first | exact Upd.head | exact Upd.tail Upd.head | exact Upd.tail (Upd.tail Upd.head) | exact Upd.tail (Upd.tail (Upd.tail Upd.head)) | exact Upd.tail (Upd.tail (Upd.tail (Upd.tail Upd.head))) | exact Upd.tail (Upd.tail (Upd.tail (Upd.tail (Upd.tail Upd.head)))) | exact Upd.tail (Upd.tail (Upd.tail (Upd.tail (Upd.tail (Upd.tail Upd.head)))))) (by first | rfl | exact Enc.len _ _) (by repeat (first | exact Ones.nil | exact Enc.ones _ _ | refine Ones.cons rfl ?_)) (by first | exact Nat.le_of_ble_eq_true rfl | (simp only [Enc.len]; decide)) ?_
  refine RW.st (fun _ => True) (fun _ h => .inr (by first | trivial | exact h | exact h.ch | exact (h.rem Rem.head).ch | exact ((h.rem Rem.head).rem Rem.head).ch | exact (((h.rem Rem.head).rem Rem.head).rem Rem.head).ch)) (fun _ h => trivial) ?_
  refine QuP.nil ?_
  refine UW.nil (EX.seq (CW.ret ?_))
  refine EX.fin1' Tryd.results28 (RV.cellA ag56 rfl (by first | exact Has.head | exact Has.tail Has.head | exact Has.tail (Has.tail Has.head) | exact Has.tail (Has.tail (Has.tail Has.head)) | exact Has.tail (Has.tail (Has.tail (Has.tail Has.head))) | exact Has.tail (Has.tail (Has.tail (Has.tail (Has.tail Has.head)))) | exact Has.tail (Has.tail (Has.tail (Has.tail (Has.tail (Has.tail Has.head)))))) rfl rfl) (fun wz hw => ?_)
  -- mq: done
  exact ⟨rfl, hw.ext⟩
def EPs : Enc (Int × Int) := ⟨fun p => [.int .i64 p.1, .int .i64 p.2], 2, fun _ => rfl, fun _ => by repeat (first | exact Ones.nil | refine Ones.cons rfl ?_)⟩
theorem refPlaces_c (w : World) (b : BlkV) : Calls Tryd.prog 31 [.agg b.cells.toArray].toArray w (RetSl EPs w b.pos) := by
  refine calls (n := 14) Tryd.func31 rfl Tryd.ntmps31 rfl ?_
  refine CW.sub (H' := SH w [] []) ?_ (Sub.refl _) (fun x hx => SH.start' _ _ hx)
  refine CW.seq (CW.region ?_)
  refine RW.boxA rfl rfl (fun g1 hg1 hf1 => ?_)
  refine RW.assign rfl rfl ?_
  refine RW.nil (EX.seq (CW.seq (CW.region ?_)))
  refine RW.fieldB fl26x2 rfl rfl ?_
  refine RW.loadBA ag24 rfl rfl (by first | exact Has.head | exact Has.tail Has.head | exact Has.tail (Has.tail Has.head) | exact Has.tail (Has.tail (Has.tail Has.head)) | exact Has.tail (Has.tail (Has.tail (Has.tail Has.head))) | exact Has.tail (Has.tail (Has.tail (Has.tail (Has.tail Has.head)))) | exact Has.tail (Has.tail (Has.tail (Has.tail (Has.tail (Has.tail Has.head)))))) rfl rfl ?_
  refine RW.fieldB fl26x3 rfl rfl ?_
  refine RW.loadBA ag24 rfl rfl (by first | exact Has.head | exact Has.tail Has.head | exact Has.tail (Has.tail Has.head) | exact Has.tail (Has.tail (Has.tail Has.head)) | exact Has.tail (Has.tail (Has.tail (Has.tail Has.head))) | exact Has.tail (Has.tail (Has.tail (Has.tail (Has.tail Has.head)))) | exact Has.tail (Has.tail (Has.tail (Has.tail (Has.tail (Has.tail Has.head)))))) rfl rfl ?_
  refine RW.fieldB fl26x4 rfl rfl ?_
  refine RW.loadBA ag24 rfl rfl (by first | exact Has.head | exact Has.tail Has.head | exact Has.tail (Has.tail Has.head) | exact Has.tail (Has.tail (Has.tail Has.head)) | exact Has.tail (Has.tail (Has.tail (Has.tail Has.head))) | exact Has.tail (Has.tail (Has.tail (Has.tail (Has.tail Has.head)))) | exact Has.tail (Has.tail (Has.tail (Has.tail (Has.tail (Has.tail Has.head)))))) rfl rfl ?_
  refine RW.fieldB fl26x5 rfl rfl ?_
  refine RW.loadBA ag24 rfl rfl (by first | exact Has.head | exact Has.tail Has.head | exact Has.tail (Has.tail Has.head) | exact Has.tail (Has.tail (Has.tail Has.head)) | exact Has.tail (Has.tail (Has.tail (Has.tail Has.head))) | exact Has.tail (Has.tail (Has.tail (Has.tail (Has.tail Has.head)))) | exact Has.tail (Has.tail (Has.tail (Has.tail (Has.tail (Has.tail Has.head)))))) rfl rfl ?_
  refine RW.fieldB fl26x6 rfl rfl ?_
  refine RW.loadBA ag24 rfl rfl (by first | exact Has.head | exact Has.tail Has.head | exact Has.tail (Has.tail Has.head) | exact Has.tail (Has.tail (Has.tail Has.head)) | exact Has.tail (Has.tail (Has.tail (Has.tail Has.head))) | exact Has.tail (Has.tail (Has.tail (Has.tail (Has.tail Has.head)))) | exact Has.tail (Has.tail (Has.tail (Has.tail (Has.tail (Has.tail Has.head)))))) rfl rfl ?_
  refine RW.buildSlc sl61 rfl rfl rfl rfl (fun g13 hg13 hf13 => ?_)
  refine RW.assign rfl rfl ?_
  refine RW.nil (EX.seq (CW.ret ?_))
  refine EX.fin1 Tryd.results31 rfl (fun wz hw => ?_)
  -- mq: done
  have hrd := Rd.of_blk (E := EPs) (L := b.pos) hw Has.head rfl (by show 5 ≤ maxLen; decide)
  exact ⟨_, _, _, rfl, hw.ext, hrd.weak (fun k hk => by rw [hk]; assumption)⟩
end Go.Proofs.YtnkdabjahmjdoaaDoor.Mq

namespace Go.Proofs.YtnkdabjahmjdoaaDoor.Mq
open Go Go.RowKit Go.Proofs

theorem nb_f {c : Bool} (h : (!c) = true) : c = false := by cases c <;> first | rfl | cases h
theorem nb_t {c : Bool} (h : (!c) = false) : c = true := by cases c <;> first | rfl | cases h
def accT (b : BlkV) (k : Nat) : Bool := decide (0 ≤ b.ph ∧ b.ph ≤ 4) && (b.pos.take k).all rightP
theorem accT_succ {b : BlkV} {k : Nat} {p : Int × Int} (h : b.pos[k]? = some p) : accT b (k + 1) = (accT b k && rightP p) := by
  unfold accT
  rw [List.take_add_one, h, Option.toList_some, List.all_append, ← Bool.and_assoc]
  simp
theorem accT_t {b : BlkV} {k : Nat} {p : Int × Int} (h : b.pos[k]? = some p) (ha : accT b k = true) : accT b (k + 1) = rightP p := by rw [accT_succ h, ha, Bool.true_and]
theorem accT_f {b : BlkV} {k : Nat} {p : Int × Int} (h : b.pos[k]? = some p) (ha : accT b k = false) : accT b (k + 1) = false := by rw [accT_succ h, ha, Bool.false_and]
theorem toldB_acc (b : BlkV) : toldB b = (accT b 5 && decide (b.dir.length ≤ 256) && decide (b.line.length ≤ 256) && (b.has || decide (b.code = 0))) := rfl
theorem told_c (w : World) (b : BlkV) : Calls Tryd.prog 27 [.agg b.cells.toArray].toArray w (fun e w' => e = .returned (.bool (toldB b)) ∧ Ext [] w w') := by
  refine calls (n := 47) Tryd.func27 rfl Tryd.ntmps27 rfl ?_
  refine CW.sub (H' := SH w [] []) ?_ (Sub.refl _) (fun x hx => SH.start' _ _ hx)
  refine CW.seq (CW.region ?_)
  refine RW.boxA rfl rfl (fun g1 hg1 hf1 => ?_)
  refine RW.assign rfl rfl ?_
  refine RW.nil (EX.seq (CW.seq ?_))
  -- mq: region
  refine CW.region ?_
  refine RW.fieldB fl26x1 rfl rfl ?_
  refine RW.loadB1 sc3 rfl rfl (by first | exact Has.head | exact Has.tail Has.head | exact Has.tail (Has.tail Has.head) | exact Has.tail (Has.tail (Has.tail Has.head)) | exact Has.tail (Has.tail (Has.tail (Has.tail Has.head))) | exact Has.tail (Has.tail (Has.tail (Has.tail (Has.tail Has.head)))) | exact Has.tail (Has.tail (Has.tail (Has.tail (Has.tail (Has.tail Has.head)))))) rfl ?_
  refine RW.call rfl ca11 rfl (fun w' _ => phase_c w' b.ph) ?_
  refine RW.move rfl rfl ?_
  refine RW.extract rfl rfl rfl ?_
  refine RW.extract rfl rfl rfl ?_
  refine RW.assign rfl rfl ?_
  refine RW.assign rfl rfl ?_
  refine RW.nil (EX.seq (CW.seq (CW.seq ?_)))
  -- mq: region
  refine CW.region ?_
  refine RW.call rfl ca28 rfl (fun w' _ => places_c w' g1) ?_
  refine RW.move rfl rfl ?_
  refine RW.nil (EX.seq (CW.block ?_))
  -- mq: loop
  refine CW.loop (ι := Nat) (fun k => [(1, .pointer (some ⟨g1, 0, none⟩)), (4, .bool (accT b k)), (13, .agg (ptrs g1).toArray), (14, .int .i64 (k : Int))]) (fun _ => SH w [] [blk g1 b.cells 26]) (fun k => k ≤ 5) (fun k => 5 - k) ?_ ?_
  · refine fun w' hw' => ⟨0, Nat.zero_le _, ?_, hw'⟩
    rw [show accT b 0 = decide (0 ≤ b.ph ∧ b.ph ≤ 4) by simp [accT]]
    exact (by repeat (first | exact Sub.nil | refine Sub.cons (by rfl) ?_))
  · intro k hk
    refine CW.seq (CW.region ?_)
    refine RW.lss rfl rfl rfl ?_
    refine RW.nil (EX.seq (CW.seq ?_))
    -- mq: cond
    first | refine CW.condD rfl (fun hlt => ?_) (fun hlt => ?_) | refine CW.cond rfl (fun hlt => ?_) (fun hlt => ?_)
    · skip
      rcases (show k = 0 ∨ k = 1 ∨ k = 2 ∨ k = 3 ∨ k = 4 by omega) with rfl | rfl | rfl | rfl | rfl
      · skip
        refine CW.skip (EX.seq (CW.seq (CW.block (CW.seq (CW.region ?_)))))
        refine RW.ixValS (q := 0) Tryd.underlying56 sc55 rfl rfl rfl (by omega) (by omega) rfl ?_
        -- mq: at
        refine RW.assign rfl rfl ?_
        refine RW.nil (EX.seq (CW.region ?_))
        refine RW.move rfl rfl ?_
        refine RW.move rfl rfl ?_
        -- mq: guard slot 18
        refine RW.casesB 18 rfl (fun hA => ?_) (fun hA => ?_)
        · skip
          refine RW.guardT rfl rfl hA ?_
          refine RW.move rfl rfl ?_
          refine RW.guardT rfl rfl hA ?_
          refine RW.nilChk rfl rfl ?_
          refine RW.guardT rfl rfl hA ?_
          refine RW.loadBA ag24 rfl rfl (by first | exact Has.head | exact Has.tail Has.head | exact Has.tail (Has.tail Has.head) | exact Has.tail (Has.tail (Has.tail Has.head)) | exact Has.tail (Has.tail (Has.tail (Has.tail Has.head))) | exact Has.tail (Has.tail (Has.tail (Has.tail (Has.tail Has.head)))) | exact Has.tail (Has.tail (Has.tail (Has.tail (Has.tail (Has.tail Has.head)))))) rfl rfl ?_
          refine RW.guardT rfl rfl hA ?_
          refine RW.call rfl ca53 rfl (fun w' _ => right_c w' b.r1 b.c1) ?_
          refine RW.pickB rfl rfl hA rfl ?_
          refine RW.assign rfl rfl ?_
          refine RW.nil (EX.bkN (EX.seq (CW.region ?_)))
          refine RW.add rfl rfl rfl (wrap64 (by omega) (by omega)) ?_
          refine RW.move rfl rfl ?_
          refine RW.nil ?_
          -- mq: loopend
          exact EX.lpN 1 (by omega) (by omega) (by rw [accT_t (p := (b.r1, b.c1)) rfl hA]; exact (by repeat (first | exact Sub.nil | refine Sub.cons (by rfl) ?_))) (fun w' hw' => hw')
        · skip
          refine RW.guardF rfl rfl rfl hA ?_
          refine RW.guardF rfl rfl rfl hA ?_
          refine RW.guardF rfl rfl rfl hA ?_
          refine RW.guardF rfl rfl rfl hA ?_
          refine RW.pickC rfl rfl hA rfl ?_
          refine RW.assign rfl rfl ?_
          refine RW.nil (EX.bkN (EX.seq (CW.region ?_)))
          refine RW.add rfl rfl rfl (wrap64 (by omega) (by omega)) ?_
          refine RW.move rfl rfl ?_
          refine RW.nil ?_
          -- mq: loopend
          exact EX.lpN 1 (by omega) (by omega) (by rw [accT_f (p := (b.r1, b.c1)) rfl hA]; exact (by repeat (first | exact Sub.nil | refine Sub.cons (by rfl) ?_))) (fun w' hw' => hw')
      · skip
        refine CW.skip (EX.seq (CW.seq (CW.block (CW.seq (CW.region ?_)))))
        refine RW.ixValS (q := 1) Tryd.underlying56 sc55 rfl rfl rfl (by omega) (by omega) rfl ?_
        -- mq: at
        refine RW.assign rfl rfl ?_
        refine RW.nil (EX.seq (CW.region ?_))
        refine RW.move rfl rfl ?_
        refine RW.move rfl rfl ?_
        -- mq: guard slot 18
        refine RW.casesB 18 rfl (fun hA => ?_) (fun hA => ?_)
        · skip
          refine RW.guardT rfl rfl hA ?_
          refine RW.move rfl rfl ?_
          refine RW.guardT rfl rfl hA ?_
          refine RW.nilChk rfl rfl ?_
          refine RW.guardT rfl rfl hA ?_
          refine RW.loadBA ag24 rfl rfl (by first | exact Has.head | exact Has.tail Has.head | exact Has.tail (Has.tail Has.head) | exact Has.tail (Has.tail (Has.tail Has.head)) | exact Has.tail (Has.tail (Has.tail (Has.tail Has.head))) | exact Has.tail (Has.tail (Has.tail (Has.tail (Has.tail Has.head)))) | exact Has.tail (Has.tail (Has.tail (Has.tail (Has.tail (Has.tail Has.head)))))) rfl rfl ?_
          refine RW.guardT rfl rfl hA ?_
          refine RW.call rfl ca53 rfl (fun w' _ => right_c w' b.r2 b.c2) ?_
          refine RW.pickB rfl rfl hA rfl ?_
          refine RW.assign rfl rfl ?_
          refine RW.nil (EX.bkN (EX.seq (CW.region ?_)))
          refine RW.add rfl rfl rfl (wrap64 (by omega) (by omega)) ?_
          refine RW.move rfl rfl ?_
          refine RW.nil ?_
          -- mq: loopend
          exact EX.lpN 2 (by omega) (by omega) (by rw [accT_t (p := (b.r2, b.c2)) rfl hA]; exact (by repeat (first | exact Sub.nil | refine Sub.cons (by rfl) ?_))) (fun w' hw' => hw')
        · skip
          refine RW.guardF rfl rfl rfl hA ?_
          refine RW.guardF rfl rfl rfl hA ?_
          refine RW.guardF rfl rfl rfl hA ?_
          refine RW.guardF rfl rfl rfl hA ?_
          refine RW.pickC rfl rfl hA rfl ?_
          refine RW.assign rfl rfl ?_
          refine RW.nil (EX.bkN (EX.seq (CW.region ?_)))
          refine RW.add rfl rfl rfl (wrap64 (by omega) (by omega)) ?_
          refine RW.move rfl rfl ?_
          refine RW.nil ?_
          -- mq: loopend
          exact EX.lpN 2 (by omega) (by omega) (by rw [accT_f (p := (b.r2, b.c2)) rfl hA]; exact (by repeat (first | exact Sub.nil | refine Sub.cons (by rfl) ?_))) (fun w' hw' => hw')
      · skip
        refine CW.skip (EX.seq (CW.seq (CW.block (CW.seq (CW.region ?_)))))
        refine RW.ixValS (q := 2) Tryd.underlying56 sc55 rfl rfl rfl (by omega) (by omega) rfl ?_
        -- mq: at
        refine RW.assign rfl rfl ?_
        refine RW.nil (EX.seq (CW.region ?_))
        refine RW.move rfl rfl ?_
        refine RW.move rfl rfl ?_
        -- mq: guard slot 18
        refine RW.casesB 18 rfl (fun hA => ?_) (fun hA => ?_)
        · skip
          refine RW.guardT rfl rfl hA ?_
          refine RW.move rfl rfl ?_
          refine RW.guardT rfl rfl hA ?_
          refine RW.nilChk rfl rfl ?_
          refine RW.guardT rfl rfl hA ?_
          refine RW.loadBA ag24 rfl rfl (by first | exact Has.head | exact Has.tail Has.head | exact Has.tail (Has.tail Has.head) | exact Has.tail (Has.tail (Has.tail Has.head)) | exact Has.tail (Has.tail (Has.tail (Has.tail Has.head))) | exact Has.tail (Has.tail (Has.tail (Has.tail (Has.tail Has.head)))) | exact Has.tail (Has.tail (Has.tail (Has.tail (Has.tail (Has.tail Has.head)))))) rfl rfl ?_
          refine RW.guardT rfl rfl hA ?_
          refine RW.call rfl ca53 rfl (fun w' _ => right_c w' b.r3 b.c3) ?_
          refine RW.pickB rfl rfl hA rfl ?_
          refine RW.assign rfl rfl ?_
          refine RW.nil (EX.bkN (EX.seq (CW.region ?_)))
          refine RW.add rfl rfl rfl (wrap64 (by omega) (by omega)) ?_
          refine RW.move rfl rfl ?_
          refine RW.nil ?_
          -- mq: loopend
          exact EX.lpN 3 (by omega) (by omega) (by rw [accT_t (p := (b.r3, b.c3)) rfl hA]; exact (by repeat (first | exact Sub.nil | refine Sub.cons (by rfl) ?_))) (fun w' hw' => hw')
        · skip
          refine RW.guardF rfl rfl rfl hA ?_
          refine RW.guardF rfl rfl rfl hA ?_
          refine RW.guardF rfl rfl rfl hA ?_
          refine RW.guardF rfl rfl rfl hA ?_
          refine RW.pickC rfl rfl hA rfl ?_
          refine RW.assign rfl rfl ?_
          refine RW.nil (EX.bkN (EX.seq (CW.region ?_)))
          refine RW.add rfl rfl rfl (wrap64 (by omega) (by omega)) ?_
          refine RW.move rfl rfl ?_
          refine RW.nil ?_
          -- mq: loopend
          exact EX.lpN 3 (by omega) (by omega) (by rw [accT_f (p := (b.r3, b.c3)) rfl hA]; exact (by repeat (first | exact Sub.nil | refine Sub.cons (by rfl) ?_))) (fun w' hw' => hw')
      · skip
        refine CW.skip (EX.seq (CW.seq (CW.block (CW.seq (CW.region ?_)))))
        refine RW.ixValS (q := 3) Tryd.underlying56 sc55 rfl rfl rfl (by omega) (by omega) rfl ?_
        -- mq: at
        refine RW.assign rfl rfl ?_
        refine RW.nil (EX.seq (CW.region ?_))
        refine RW.move rfl rfl ?_
        refine RW.move rfl rfl ?_
        -- mq: guard slot 18
        refine RW.casesB 18 rfl (fun hA => ?_) (fun hA => ?_)
        · skip
          refine RW.guardT rfl rfl hA ?_
          refine RW.move rfl rfl ?_
          refine RW.guardT rfl rfl hA ?_
          refine RW.nilChk rfl rfl ?_
          refine RW.guardT rfl rfl hA ?_
          refine RW.loadBA ag24 rfl rfl (by first | exact Has.head | exact Has.tail Has.head | exact Has.tail (Has.tail Has.head) | exact Has.tail (Has.tail (Has.tail Has.head)) | exact Has.tail (Has.tail (Has.tail (Has.tail Has.head))) | exact Has.tail (Has.tail (Has.tail (Has.tail (Has.tail Has.head)))) | exact Has.tail (Has.tail (Has.tail (Has.tail (Has.tail (Has.tail Has.head)))))) rfl rfl ?_
          refine RW.guardT rfl rfl hA ?_
          refine RW.call rfl ca53 rfl (fun w' _ => right_c w' b.r4 b.c4) ?_
          refine RW.pickB rfl rfl hA rfl ?_
          refine RW.assign rfl rfl ?_
          refine RW.nil (EX.bkN (EX.seq (CW.region ?_)))
          refine RW.add rfl rfl rfl (wrap64 (by omega) (by omega)) ?_
          refine RW.move rfl rfl ?_
          refine RW.nil ?_
          -- mq: loopend
          exact EX.lpN 4 (by omega) (by omega) (by rw [accT_t (p := (b.r4, b.c4)) rfl hA]; exact (by repeat (first | exact Sub.nil | refine Sub.cons (by rfl) ?_))) (fun w' hw' => hw')
        · skip
          refine RW.guardF rfl rfl rfl hA ?_
          refine RW.guardF rfl rfl rfl hA ?_
          refine RW.guardF rfl rfl rfl hA ?_
          refine RW.guardF rfl rfl rfl hA ?_
          refine RW.pickC rfl rfl hA rfl ?_
          refine RW.assign rfl rfl ?_
          refine RW.nil (EX.bkN (EX.seq (CW.region ?_)))
          refine RW.add rfl rfl rfl (wrap64 (by omega) (by omega)) ?_
          refine RW.move rfl rfl ?_
          refine RW.nil ?_
          -- mq: loopend
          exact EX.lpN 4 (by omega) (by omega) (by rw [accT_f (p := (b.r4, b.c4)) rfl hA]; exact (by repeat (first | exact Sub.nil | refine Sub.cons (by rfl) ?_))) (fun w' hw' => hw')
      · skip
        refine CW.skip (EX.seq (CW.seq (CW.block (CW.seq (CW.region ?_)))))
        refine RW.ixValS (q := 4) Tryd.underlying56 sc55 rfl rfl rfl (by omega) (by omega) rfl ?_
        -- mq: at
        refine RW.assign rfl rfl ?_
        refine RW.nil (EX.seq (CW.region ?_))
        refine RW.move rfl rfl ?_
        refine RW.move rfl rfl ?_
        -- mq: guard slot 18
        refine RW.casesB 18 rfl (fun hA => ?_) (fun hA => ?_)
        · skip
          refine RW.guardT rfl rfl hA ?_
          refine RW.move rfl rfl ?_
          refine RW.guardT rfl rfl hA ?_
          refine RW.nilChk rfl rfl ?_
          refine RW.guardT rfl rfl hA ?_
          refine RW.loadBA ag24 rfl rfl (by first | exact Has.head | exact Has.tail Has.head | exact Has.tail (Has.tail Has.head) | exact Has.tail (Has.tail (Has.tail Has.head)) | exact Has.tail (Has.tail (Has.tail (Has.tail Has.head))) | exact Has.tail (Has.tail (Has.tail (Has.tail (Has.tail Has.head)))) | exact Has.tail (Has.tail (Has.tail (Has.tail (Has.tail (Has.tail Has.head)))))) rfl rfl ?_
          refine RW.guardT rfl rfl hA ?_
          refine RW.call rfl ca53 rfl (fun w' _ => right_c w' b.r5 b.c5) ?_
          refine RW.pickB rfl rfl hA rfl ?_
          refine RW.assign rfl rfl ?_
          refine RW.nil (EX.bkN (EX.seq (CW.region ?_)))
          refine RW.add rfl rfl rfl (wrap64 (by omega) (by omega)) ?_
          refine RW.move rfl rfl ?_
          refine RW.nil ?_
          -- mq: loopend
          exact EX.lpN 5 (by omega) (by omega) (by rw [accT_t (p := (b.r5, b.c5)) rfl hA]; exact (by repeat (first | exact Sub.nil | refine Sub.cons (by rfl) ?_))) (fun w' hw' => hw')
        · skip
          refine RW.guardF rfl rfl rfl hA ?_
          refine RW.guardF rfl rfl rfl hA ?_
          refine RW.guardF rfl rfl rfl hA ?_
          refine RW.guardF rfl rfl rfl hA ?_
          refine RW.pickC rfl rfl hA rfl ?_
          refine RW.assign rfl rfl ?_
          refine RW.nil (EX.bkN (EX.seq (CW.region ?_)))
          refine RW.add rfl rfl rfl (wrap64 (by omega) (by omega)) ?_
          refine RW.move rfl rfl ?_
          refine RW.nil ?_
          -- mq: loopend
          exact EX.lpN 5 (by omega) (by omega) (by rw [accT_f (p := (b.r5, b.c5)) rfl hA]; exact (by repeat (first | exact Sub.nil | refine Sub.cons (by rfl) ?_))) (fun w' hw' => hw')
    · skip
      obtain rfl : k = 5 := by omega
      refine CW.exit (EX.seqE (EX.lpE (EX.bkE (EX.seq (CW.seq (CW.region ?_))))))
      refine RW.move rfl rfl ?_
      refine RW.move rfl rfl ?_
      -- mq: guard slot 26
      refine RW.casesB 26 rfl (fun h1 => ?_) (fun h1 => ?_)
      · skip
        refine RW.guardT rfl rfl h1 ?_
        refine RW.fieldB fl26x10 rfl rfl ?_
        refine RW.guardT rfl rfl h1 ?_
        refine RW.loadB1 sc9 rfl rfl (by first | exact Has.head | exact Has.tail Has.head | exact Has.tail (Has.tail Has.head) | exact Has.tail (Has.tail (Has.tail Has.head)) | exact Has.tail (Has.tail (Has.tail (Has.tail Has.head))) | exact Has.tail (Has.tail (Has.tail (Has.tail (Has.tail Has.head)))) | exact Has.tail (Has.tail (Has.tail (Has.tail (Has.tail (Has.tail Has.head)))))) rfl ?_
        refine RW.guardT rfl rfl h1 ?_
        refine RW.lenS Tryd.underlying9 rfl rfl ?_
        refine RW.guardT rfl rfl h1 ?_
        refine RW.leq rfl rfl rfl ?_
        refine RW.pickB rfl rfl h1 rfl ?_
        refine RW.move rfl rfl ?_
        -- mq: guard slot 32
        refine RW.casesB 32 rfl (fun h2 => ?_) (fun h2 => ?_)
        · skip
          refine RW.guardT rfl rfl h2 ?_
          refine RW.fieldB fl26x11 rfl rfl ?_
          refine RW.guardT rfl rfl h2 ?_
          refine RW.loadB1 sc9 rfl rfl (by first | exact Has.head | exact Has.tail Has.head | exact Has.tail (Has.tail Has.head) | exact Has.tail (Has.tail (Has.tail Has.head)) | exact Has.tail (Has.tail (Has.tail (Has.tail Has.head))) | exact Has.tail (Has.tail (Has.tail (Has.tail (Has.tail Has.head)))) | exact Has.tail (Has.tail (Has.tail (Has.tail (Has.tail (Has.tail Has.head)))))) rfl ?_
          refine RW.guardT rfl rfl h2 ?_
          refine RW.lenS Tryd.underlying9 rfl rfl ?_
          refine RW.guardT rfl rfl h2 ?_
          refine RW.leq rfl rfl rfl ?_
          refine RW.pickB rfl rfl h2 rfl ?_
          refine RW.move rfl rfl ?_
          -- mq: guard slot 38
          refine RW.casesB 38 rfl (fun h3 => ?_) (fun h3 => ?_)
          · skip
            refine RW.guardT rfl rfl h3 ?_
            refine RW.fieldB fl26x8 rfl rfl ?_
            refine RW.guardT rfl rfl h3 ?_
            refine RW.loadB1 sc4 rfl rfl (by first | exact Has.head | exact Has.tail Has.head | exact Has.tail (Has.tail Has.head) | exact Has.tail (Has.tail (Has.tail Has.head)) | exact Has.tail (Has.tail (Has.tail (Has.tail Has.head))) | exact Has.tail (Has.tail (Has.tail (Has.tail (Has.tail Has.head)))) | exact Has.tail (Has.tail (Has.tail (Has.tail (Has.tail (Has.tail Has.head)))))) rfl ?_
            refine RW.guardT rfl rfl h3 ?_
            refine RW.move rfl rfl ?_
            -- mq: guard slot 41
            refine RW.casesB 41 rfl (fun h4 => ?_) (fun h4 => ?_)
            · skip
              refine RW.guardF rfl rfl rfl h4 ?_
              refine RW.guardF rfl rfl rfl h4 ?_
              refine RW.guardF rfl rfl rfl h4 ?_
              refine RW.guardT rfl rfl h3 ?_
              refine RW.pickB rfl rfl h4 rfl ?_
              refine RW.pickB rfl rfl h3 rfl ?_
              refine RW.assign rfl rfl ?_
              refine RW.nil (EX.seq (CW.ret ?_))
              refine EX.fin1 Tryd.results27 rfl (fun wz hw => ?_)
              -- mq: done
              refine ⟨?_, hw.ext⟩
              rw [toldB_acc, h1, show decide (b.dir.length ≤ 256) = true from by rw [← h2]; exact decide_eq_decide.2 (by omega), show decide (b.line.length ≤ 256) = true from by rw [← h3]; exact decide_eq_decide.2 (by omega), h4]; rfl
            · skip
              refine RW.guardT rfl rfl h4 ?_
              refine RW.fieldB fl26x7 rfl rfl ?_
              refine RW.guardT rfl rfl h4 ?_
              refine RW.loadB1 sc3 rfl rfl (by first | exact Has.head | exact Has.tail Has.head | exact Has.tail (Has.tail Has.head) | exact Has.tail (Has.tail (Has.tail Has.head)) | exact Has.tail (Has.tail (Has.tail (Has.tail Has.head))) | exact Has.tail (Has.tail (Has.tail (Has.tail (Has.tail Has.head)))) | exact Has.tail (Has.tail (Has.tail (Has.tail (Has.tail (Has.tail Has.head)))))) rfl ?_
              refine RW.guardT rfl rfl h4 ?_
              refine RW.eqlI rfl rfl rfl ?_
              refine RW.guardT rfl rfl h3 ?_
              refine RW.pickC rfl rfl h4 rfl ?_
              refine RW.pickB rfl rfl h3 rfl ?_
              refine RW.assign rfl rfl ?_
              refine RW.nil (EX.seq (CW.ret ?_))
              refine EX.fin1 Tryd.results27 rfl (fun wz hw => ?_)
              -- mq: done
              refine ⟨?_, hw.ext⟩
              rw [toldB_acc, h1, show decide (b.dir.length ≤ 256) = true from by rw [← h2]; exact decide_eq_decide.2 (by omega), show decide (b.line.length ≤ 256) = true from by rw [← h3]; exact decide_eq_decide.2 (by omega), h4]; rfl
          · skip
            refine RW.guardF rfl rfl rfl h3 ?_
            refine RW.guardF rfl rfl rfl h3 ?_
            refine RW.guardF rfl rfl rfl h3 ?_
            refine RW.guardU rfl rfl rfl ?_
            refine RW.guardU rfl rfl rfl ?_
            refine RW.guardU rfl rfl rfl ?_
            refine RW.guardF rfl rfl rfl h3 ?_
            refine RW.pickC rfl rfl h3 rfl ?_
            refine RW.assign rfl rfl ?_
            refine RW.nil (EX.seq (CW.ret ?_))
            refine EX.fin1 Tryd.results27 rfl (fun wz hw => ?_)
            -- mq: done
            refine ⟨?_, hw.ext⟩
            rw [toldB_acc, h1, show decide (b.dir.length ≤ 256) = true from by rw [← h2]; exact decide_eq_decide.2 (by omega), show decide (b.line.length ≤ 256) = false from by rw [← h3]; exact decide_eq_decide.2 (by omega)]; rfl
        · skip
          refine RW.guardF rfl rfl rfl h2 ?_
          refine RW.guardF rfl rfl rfl h2 ?_
          refine RW.guardF rfl rfl rfl h2 ?_
          refine RW.guardF rfl rfl rfl h2 ?_
          refine RW.pickC rfl rfl h2 rfl ?_
          refine RW.move rfl rfl ?_
          refine RW.guardF rfl rfl rfl rfl ?_
          refine RW.guardF rfl rfl rfl rfl ?_
          refine RW.guardF rfl rfl rfl rfl ?_
          refine RW.guardU rfl rfl rfl ?_
          refine RW.guardU rfl rfl rfl ?_
          refine RW.guardU rfl rfl rfl ?_
          refine RW.guardF rfl rfl rfl rfl ?_
          refine RW.pickC rfl rfl rfl rfl ?_
          refine RW.assign rfl rfl ?_
          refine RW.nil (EX.seq (CW.ret ?_))
          refine EX.fin1 Tryd.results27 rfl (fun wz hw => ?_)
          -- mq: done
          refine ⟨?_, hw.ext⟩
          rw [toldB_acc, h1, show decide (b.dir.length ≤ 256) = false from by rw [← h2]; exact decide_eq_decide.2 (by omega)]; rfl
      · skip
        refine RW.guardF rfl rfl rfl h1 ?_
        refine RW.guardF rfl rfl rfl h1 ?_
        refine RW.guardF rfl rfl rfl h1 ?_
        refine RW.guardF rfl rfl rfl h1 ?_
        refine RW.pickC rfl rfl h1 rfl ?_
        refine RW.move rfl rfl ?_
        refine RW.guardF rfl rfl rfl rfl ?_
        refine RW.guardF rfl rfl rfl rfl ?_
        refine RW.guardF rfl rfl rfl rfl ?_
        refine RW.guardF rfl rfl rfl rfl ?_
        refine RW.pickC rfl rfl rfl rfl ?_
        refine RW.move rfl rfl ?_
        refine RW.guardF rfl rfl rfl rfl ?_
        refine RW.guardF rfl rfl rfl rfl ?_
        refine RW.guardF rfl rfl rfl rfl ?_
        refine RW.guardU rfl rfl rfl ?_
        refine RW.guardU rfl rfl rfl ?_
        refine RW.guardU rfl rfl rfl ?_
        refine RW.guardF rfl rfl rfl rfl ?_
        refine RW.pickC rfl rfl rfl rfl ?_
        refine RW.assign rfl rfl ?_
        refine RW.nil (EX.seq (CW.ret ?_))
        refine EX.fin1 Tryd.results27 rfl (fun wz hw => ?_)
        -- mq: done
        refine ⟨?_, hw.ext⟩
        rw [toldB_acc, h1]; rfl
theorem rightP_eq (p : Int × Int) : rightP p = (decide (0 ≤ p.1 ∧ p.1 ≤ 1099511627776) && decide (0 ≤ p.2 ∧ p.2 ≤ 1099511627776)) := by
  unfold rightP
  by_cases h1 : 0 ≤ p.1 ∧ p.1 ≤ 1099511627776
  · by_cases h2 : 0 ≤ p.2 ∧ p.2 ≤ 1099511627776
    · rw [decide_eq_true h1, decide_eq_true h2, decide_eq_true (by omega)]; rfl
    · rw [decide_eq_false h2, decide_eq_false (by omega), Bool.and_false]
  · rw [decide_eq_false h1, decide_eq_false (by omega)]; rfl
theorem told_bad {b : BlkV} {k : Nat} {p : Int × Int} (h : b.pos[k]? = some p) (hp : rightP p = false) : toldB b = false := by
  cases ht : toldB b with
  | false => rfl
  | true => rw [(toldB_iff.1 ht).2.1 p (List.mem_of_getElem? h)] at hp; cases hp
theorem refTold_c (w : World) (b : BlkV) : Calls Tryd.prog 16 [.agg b.cells.toArray].toArray w (fun e w' => e = .returned (.bool (toldB b)) ∧ Ext [] w w') := by
  refine calls (n := 58) Tryd.func16 rfl Tryd.ntmps16 rfl ?_
  refine CW.sub (H' := SH w [] []) ?_ (Sub.refl _) (fun x hx => SH.start' _ _ hx)
  refine CW.seq (CW.region ?_)
  refine RW.boxA rfl rfl (fun g1 hg1 hf1 => ?_)
  refine RW.assign rfl rfl ?_
  refine RW.nil (EX.seq (CW.seq ?_))
  -- mq: region
  refine CW.region ?_
  refine RW.loadBA ag26 rfl rfl (by first | exact Has.head | exact Has.tail Has.head | exact Has.tail (Has.tail Has.head) | exact Has.tail (Has.tail (Has.tail Has.head)) | exact Has.tail (Has.tail (Has.tail (Has.tail Has.head))) | exact Has.tail (Has.tail (Has.tail (Has.tail (Has.tail Has.head)))) | exact Has.tail (Has.tail (Has.tail (Has.tail (Has.tail (Has.tail Has.head)))))) rfl rfl ?_
  -- mq: at
  refine RW.callK rfl ca31 rfl (fun w' _ => refPlaces_c w' b) (fun w0 w1 A9 n9 c9 hw0 he01 hw1 hlt9 hrd9 => ?_)
  have hn9 : n9 = 5 := hrd9.len.symm
  have hx1 : Ext [] w w1 := hw0.ext.trans0 he01
  have hcv := hw0.cov
  refine RW.assign rfl rfl ?_
  refine RW.nil (EX.seq (CW.seq (CW.seq (CW.region ?_))))
  refine RW.assign rfl rfl ?_
  refine RW.nil (EX.seq (CW.block ?_))
  -- mq: loop
  refine CW.loop (ι := Nat) (fun k => [(1, .pointer (some ⟨g1, 0, none⟩)), (3, .slice A9 n9 c9), (4, .int .i64 (k : Int))]) (fun _ => SH w1 (feet [blk g1 b.cells 26]) [blk g1 b.cells 26]) (fun k => k ≤ 5 ∧ (b.pos.take k).all rightP = true) (fun k => 5 - k) ?_ ?_
  · exact fun w' hw' => ⟨0, ⟨Nat.zero_le _, by simp⟩, (by repeat (first | exact Sub.nil | refine Sub.cons (by rfl) ?_)), hw'⟩
  · rintro k ⟨hk, hall⟩
    refine CW.seq (CW.seq (CW.region ?_))
    refine RW.move rfl rfl ?_
    refine RW.move rfl rfl ?_
    refine RW.lenSl Tryd.underlying61 rfl rfl ?_
    refine RW.lss rfl rfl rfl ?_
    refine RW.nil (EX.seq ?_)
    -- mq: cond
    first | refine CW.condD rfl (fun hlt => ?_) (fun hlt => ?_) | refine CW.cond rfl (fun hlt => ?_) (fun hlt => ?_)
    · skip
      obtain ⟨p, hp⟩ : ∃ p, b.pos[k]? = some p := ⟨b.pos[k]'(by show k < 5; omega), List.getElem?_eq_getElem _⟩
      obtain ⟨ad, hA, had, hcell⟩ := hrd9.at_ hp
      have hnf : ∀ o, ((ad.add (k * 2)).add o).block ∉ feet [blk g1 b.cells 26] := fun o hk2 => by
        have := hlt9 _ hk2
        have : w0.heap.size ≤ ad.block := had
        simp only [block_add] at *; omega
      have hall2 := List.take_add_one (l := b.pos) (i := k)
      rw [hp, Option.toList_some] at hall2
      refine CW.skip (EX.seq (CW.seq (CW.block (CW.seq (CW.region ?_)))))
      refine RW.move rfl rfl ?_
      refine RW.move rfl rfl ?_
      refine RW.ixAddr (q := k) sl61 rfl rfl rfl (by first | rfl | assumption) (by omega) (by omega) ?_
      refine RW.fieldP fl24x0 rfl rfl ?_
      refine RW.load1 sc3 rfl rfl (fun w' hw' => hw'.base_cell (hcell 0 _ rfl) (hnf 0)) ?_
      refine RW.call rfl ca32 rfl (fun w' _ => refRight_c w' p.1) ?_
      refine RW.not_ rfl rfl ?_
      refine RW.move rfl rfl ?_
      -- mq: guard slot 20
      refine RW.casesB 20 rfl (fun h1 => ?_) (fun h1 => ?_)
      · skip
        refine RW.guardF rfl rfl rfl h1 ?_
        refine RW.guardF rfl rfl rfl h1 ?_
        refine RW.guardF rfl rfl rfl h1 ?_
        refine RW.guardF rfl rfl rfl h1 ?_
        refine RW.guardF rfl rfl rfl h1 ?_
        refine RW.guardF rfl rfl rfl h1 ?_
        refine RW.guardF rfl rfl rfl h1 ?_
        refine RW.pickB rfl rfl h1 rfl ?_
        refine RW.nil (EX.seq ?_)
        -- mq: cond
        refine CW.condT rfl (rfl) ?_
        refine CW.seq (CW.region ?_)
        refine RW.assign rfl rfl ?_
        refine RW.nil (EX.seq (CW.ret (EX.bkR (EX.seqR (EX.lpR (EX.bkR (EX.seqR ?_)))))))
        refine EX.fin1 Tryd.results16 rfl (fun wz hw => ?_)
        -- mq: done
        refine ⟨?_, (hw.unbase hx1 hcv).ext⟩
        rw [told_bad hp (by rw [rightP_eq, nb_f h1]; rfl)]
      · skip
        refine RW.guardT rfl rfl h1 ?_
        refine RW.move rfl rfl ?_
        refine RW.guardT rfl rfl h1 ?_
        refine RW.move rfl rfl ?_
        refine RW.guardT rfl rfl h1 ?_
        refine RW.ixAddr (q := k) sl61 rfl rfl rfl (by first | rfl | assumption) (by omega) (by omega) ?_
        refine RW.guardT rfl rfl h1 ?_
        refine RW.fieldP fl24x1 rfl rfl ?_
        refine RW.guardT rfl rfl h1 ?_
        refine RW.load1 sc3 rfl rfl (fun w' hw' => hw'.base_cell (hcell 1 _ rfl) (hnf 1)) ?_
        refine RW.guardT rfl rfl h1 ?_
        refine RW.call rfl ca32 rfl (fun w' _ => refRight_c w' p.2) ?_
        refine RW.guardT rfl rfl h1 ?_
        refine RW.not_ rfl rfl ?_
        refine RW.pickC rfl rfl h1 rfl ?_
        refine RW.nil (EX.seq ?_)
        -- mq: cond
        first | refine CW.condD rfl (fun h2 => ?_) (fun h2 => ?_) | refine CW.cond rfl (fun h2 => ?_) (fun h2 => ?_)
        · skip
          refine CW.seq (CW.region ?_)
          refine RW.assign rfl rfl ?_
          refine RW.nil (EX.seq (CW.ret (EX.bkR (EX.seqR (EX.lpR (EX.bkR (EX.seqR ?_)))))))
          refine EX.fin1 Tryd.results16 rfl (fun wz hw => ?_)
          -- mq: done
          refine ⟨?_, (hw.unbase hx1 hcv).ext⟩
          rw [told_bad hp (by rw [rightP_eq, show decide (0 ≤ p.2 ∧ p.2 ≤ 1099511627776) = false from nb_f (by simpa using h2), Bool.and_false])]
        · skip
          refine CW.skip (EX.bkN (EX.seq (CW.region ?_)))
          refine RW.move rfl rfl ?_
          refine RW.add rfl rfl rfl (wrap64 (by omega) (by omega)) ?_
          refine RW.assign rfl rfl ?_
          refine RW.nil ?_
          -- mq: loopend
          refine EX.lpN (k + 1) ⟨by omega, ?_⟩ (by omega) (by repeat (first | exact Sub.nil | refine Sub.cons (by rfl) ?_)) (fun w' hw' => hw')
          rw [hall2, List.all_append, hall]
          have e1 := nb_t h1
          have e2 : decide (0 ≤ p.2 ∧ p.2 ≤ 1099511627776) = true := by simpa using h2
          simp [rightP_eq, e1, e2]
    · skip
      obtain rfl : k = 5 := by omega
      have hacc : accT b 5 = decide (0 ≤ b.ph ∧ b.ph ≤ 4) := by unfold accT; rw [hall, Bool.and_true]
      refine CW.exit (EX.seqE (EX.lpE (EX.bkE (EX.seq (CW.seq (CW.region ?_))))))
      refine RW.fieldB fl26x1 rfl rfl ?_
      refine RW.loadB1 sc3 rfl rfl (by first | exact Has.head | exact Has.tail Has.head | exact Has.tail (Has.tail Has.head) | exact Has.tail (Has.tail (Has.tail Has.head)) | exact Has.tail (Has.tail (Has.tail (Has.tail Has.head))) | exact Has.tail (Has.tail (Has.tail (Has.tail (Has.tail Has.head)))) | exact Has.tail (Has.tail (Has.tail (Has.tail (Has.tail (Has.tail Has.head)))))) rfl ?_
      refine RW.geq rfl rfl rfl ?_
      refine RW.move rfl rfl ?_
      -- mq: guard slot 32
      refine RW.casesB 32 rfl (fun h1 => ?_) (fun h1 => ?_)
      · skip
        refine RW.guardT rfl rfl h1 ?_
        refine RW.fieldB fl26x1 rfl rfl ?_
        refine RW.guardT rfl rfl h1 ?_
        refine RW.loadB1 sc3 rfl rfl (by first | exact Has.head | exact Has.tail Has.head | exact Has.tail (Has.tail Has.head) | exact Has.tail (Has.tail (Has.tail Has.head)) | exact Has.tail (Has.tail (Has.tail (Has.tail Has.head))) | exact Has.tail (Has.tail (Has.tail (Has.tail (Has.tail Has.head)))) | exact Has.tail (Has.tail (Has.tail (Has.tail (Has.tail (Has.tail Has.head)))))) rfl ?_
        refine RW.guardT rfl rfl h1 ?_
        refine RW.leq rfl rfl rfl ?_
        refine RW.pickB rfl rfl h1 rfl ?_
        refine RW.move rfl rfl ?_
        -- mq: guard slot 37
        refine RW.casesB 37 rfl (fun h2 => ?_) (fun h2 => ?_)
        · skip
          refine RW.guardT rfl rfl h2 ?_
          refine RW.fieldB fl26x10 rfl rfl ?_
          refine RW.guardT rfl rfl h2 ?_
          refine RW.loadB1 sc9 rfl rfl (by first | exact Has.head | exact Has.tail Has.head | exact Has.tail (Has.tail Has.head) | exact Has.tail (Has.tail (Has.tail Has.head)) | exact Has.tail (Has.tail (Has.tail (Has.tail Has.head))) | exact Has.tail (Has.tail (Has.tail (Has.tail (Has.tail Has.head)))) | exact Has.tail (Has.tail (Has.tail (Has.tail (Has.tail (Has.tail Has.head)))))) rfl ?_
          refine RW.guardT rfl rfl h2 ?_
          refine RW.lenS Tryd.underlying9 rfl rfl ?_
          refine RW.guardT rfl rfl h2 ?_
          refine RW.leq rfl rfl rfl ?_
          refine RW.pickB rfl rfl h2 rfl ?_
          refine RW.move rfl rfl ?_
          -- mq: guard slot 43
          refine RW.casesB 43 rfl (fun h3 => ?_) (fun h3 => ?_)
          · skip
            refine RW.guardT rfl rfl h3 ?_
            refine RW.fieldB fl26x11 rfl rfl ?_
            refine RW.guardT rfl rfl h3 ?_
            refine RW.loadB1 sc9 rfl rfl (by first | exact Has.head | exact Has.tail Has.head | exact Has.tail (Has.tail Has.head) | exact Has.tail (Has.tail (Has.tail Has.head)) | exact Has.tail (Has.tail (Has.tail (Has.tail Has.head))) | exact Has.tail (Has.tail (Has.tail (Has.tail (Has.tail Has.head)))) | exact Has.tail (Has.tail (Has.tail (Has.tail (Has.tail (Has.tail Has.head)))))) rfl ?_
            refine RW.guardT rfl rfl h3 ?_
            refine RW.lenS Tryd.underlying9 rfl rfl ?_
            refine RW.guardT rfl rfl h3 ?_
            refine RW.leq rfl rfl rfl ?_
            refine RW.pickB rfl rfl h3 rfl ?_
            refine RW.move rfl rfl ?_
            -- mq: guard slot 49
            refine RW.casesB 49 rfl (fun h4 => ?_) (fun h4 => ?_)
            · skip
              refine RW.guardT rfl rfl h4 ?_
              refine RW.fieldB fl26x8 rfl rfl ?_
              refine RW.guardT rfl rfl h4 ?_
              refine RW.loadB1 sc4 rfl rfl (by first | exact Has.head | exact Has.tail Has.head | exact Has.tail (Has.tail Has.head) | exact Has.tail (Has.tail (Has.tail Has.head)) | exact Has.tail (Has.tail (Has.tail (Has.tail Has.head))) | exact Has.tail (Has.tail (Has.tail (Has.tail (Has.tail Has.head)))) | exact Has.tail (Has.tail (Has.tail (Has.tail (Has.tail (Has.tail Has.head)))))) rfl ?_
              refine RW.guardT rfl rfl h4 ?_
              refine RW.move rfl rfl ?_
              -- mq: guard slot 52
              refine RW.casesB 52 rfl (fun h5 => ?_) (fun h5 => ?_)
              · skip
                refine RW.guardF rfl rfl rfl h5 ?_
                refine RW.guardF rfl rfl rfl h5 ?_
                refine RW.guardF rfl rfl rfl h5 ?_
                refine RW.guardT rfl rfl h4 ?_
                refine RW.pickB rfl rfl h5 rfl ?_
                refine RW.pickB rfl rfl h4 rfl ?_
                refine RW.assign rfl rfl ?_
                refine RW.nil (EX.seq (CW.ret ?_))
                refine EX.fin1 Tryd.results16 rfl (fun wz hw => ?_)
                -- mq: done
                refine ⟨?_, (hw.unbase hx1 hcv).ext⟩
                rw [toldB_acc, hacc, show decide (0 ≤ b.ph ∧ b.ph ≤ 4) = true from by exact decide_eq_true (by have := of_decide_eq_true h1; have := of_decide_eq_true h2; omega), show decide (b.dir.length ≤ 256) = true from by rw [← h3]; exact decide_eq_decide.2 (by omega), show decide (b.line.length ≤ 256) = true from by rw [← h4]; exact decide_eq_decide.2 (by omega), h5]; rfl
              · skip
                refine RW.guardT rfl rfl h5 ?_
                refine RW.fieldB fl26x7 rfl rfl ?_
                refine RW.guardT rfl rfl h5 ?_
                refine RW.loadB1 sc3 rfl rfl (by first | exact Has.head | exact Has.tail Has.head | exact Has.tail (Has.tail Has.head) | exact Has.tail (Has.tail (Has.tail Has.head)) | exact Has.tail (Has.tail (Has.tail (Has.tail Has.head))) | exact Has.tail (Has.tail (Has.tail (Has.tail (Has.tail Has.head)))) | exact Has.tail (Has.tail (Has.tail (Has.tail (Has.tail (Has.tail Has.head)))))) rfl ?_
                refine RW.guardT rfl rfl h5 ?_
                refine RW.eqlI rfl rfl rfl ?_
                refine RW.guardT rfl rfl h4 ?_
                refine RW.pickC rfl rfl h5 rfl ?_
                refine RW.pickB rfl rfl h4 rfl ?_
                refine RW.assign rfl rfl ?_
                refine RW.nil (EX.seq (CW.ret ?_))
                refine EX.fin1 Tryd.results16 rfl (fun wz hw => ?_)
                -- mq: done
                refine ⟨?_, (hw.unbase hx1 hcv).ext⟩
                rw [toldB_acc, hacc, show decide (0 ≤ b.ph ∧ b.ph ≤ 4) = true from by exact decide_eq_true (by have := of_decide_eq_true h1; have := of_decide_eq_true h2; omega), show decide (b.dir.length ≤ 256) = true from by rw [← h3]; exact decide_eq_decide.2 (by omega), show decide (b.line.length ≤ 256) = true from by rw [← h4]; exact decide_eq_decide.2 (by omega), h5]; rfl
            · skip
              refine RW.guardF rfl rfl rfl h4 ?_
              refine RW.guardF rfl rfl rfl h4 ?_
              refine RW.guardF rfl rfl rfl h4 ?_
              refine RW.guardU rfl rfl rfl ?_
              refine RW.guardU rfl rfl rfl ?_
              refine RW.guardU rfl rfl rfl ?_
              refine RW.guardF rfl rfl rfl h4 ?_
              refine RW.pickC rfl rfl h4 rfl ?_
              refine RW.assign rfl rfl ?_
              refine RW.nil (EX.seq (CW.ret ?_))
              refine EX.fin1 Tryd.results16 rfl (fun wz hw => ?_)
              -- mq: done
              refine ⟨?_, (hw.unbase hx1 hcv).ext⟩
              rw [toldB_acc, hacc, show decide (0 ≤ b.ph ∧ b.ph ≤ 4) = true from by exact decide_eq_true (by have := of_decide_eq_true h1; have := of_decide_eq_true h2; omega), show decide (b.dir.length ≤ 256) = true from by rw [← h3]; exact decide_eq_decide.2 (by omega), show decide (b.line.length ≤ 256) = false from by rw [← h4]; exact decide_eq_decide.2 (by omega)]; rfl
          · skip
            refine RW.guardF rfl rfl rfl h3 ?_
            refine RW.guardF rfl rfl rfl h3 ?_
            refine RW.guardF rfl rfl rfl h3 ?_
            refine RW.guardF rfl rfl rfl h3 ?_
            refine RW.pickC rfl rfl h3 rfl ?_
            refine RW.move rfl rfl ?_
            refine RW.guardF rfl rfl rfl rfl ?_
            refine RW.guardF rfl rfl rfl rfl ?_
            refine RW.guardF rfl rfl rfl rfl ?_
            refine RW.guardU rfl rfl rfl ?_
            refine RW.guardU rfl rfl rfl ?_
            refine RW.guardU rfl rfl rfl ?_
            refine RW.guardF rfl rfl rfl rfl ?_
            refine RW.pickC rfl rfl rfl rfl ?_
            refine RW.assign rfl rfl ?_
            refine RW.nil (EX.seq (CW.ret ?_))
            refine EX.fin1 Tryd.results16 rfl (fun wz hw => ?_)
            -- mq: done
            refine ⟨?_, (hw.unbase hx1 hcv).ext⟩
            rw [toldB_acc, hacc, show decide (0 ≤ b.ph ∧ b.ph ≤ 4) = true from by exact decide_eq_true (by have := of_decide_eq_true h1; have := of_decide_eq_true h2; omega), show decide (b.dir.length ≤ 256) = false from by rw [← h3]; exact decide_eq_decide.2 (by omega)]; rfl
        · skip
          refine RW.guardF rfl rfl rfl h2 ?_
          refine RW.guardF rfl rfl rfl h2 ?_
          refine RW.guardF rfl rfl rfl h2 ?_
          refine RW.guardF rfl rfl rfl h2 ?_
          refine RW.pickC rfl rfl h2 rfl ?_
          refine RW.move rfl rfl ?_
          refine RW.guardF rfl rfl rfl rfl ?_
          refine RW.guardF rfl rfl rfl rfl ?_
          refine RW.guardF rfl rfl rfl rfl ?_
          refine RW.guardF rfl rfl rfl rfl ?_
          refine RW.pickC rfl rfl rfl rfl ?_
          refine RW.move rfl rfl ?_
          refine RW.guardF rfl rfl rfl rfl ?_
          refine RW.guardF rfl rfl rfl rfl ?_
          refine RW.guardF rfl rfl rfl rfl ?_
          refine RW.guardU rfl rfl rfl ?_
          refine RW.guardU rfl rfl rfl ?_
          refine RW.guardU rfl rfl rfl ?_
          refine RW.guardF rfl rfl rfl rfl ?_
          refine RW.pickC rfl rfl rfl rfl ?_
          refine RW.assign rfl rfl ?_
          refine RW.nil (EX.seq (CW.ret ?_))
          refine EX.fin1 Tryd.results16 rfl (fun wz hw => ?_)
          -- mq: done
          refine ⟨?_, (hw.unbase hx1 hcv).ext⟩
          rw [toldB_acc, hacc, show decide (0 ≤ b.ph ∧ b.ph ≤ 4) = false from by exact decide_eq_false (by have := of_decide_eq_false h2; omega)]; rfl
      · skip
        refine RW.guardF rfl rfl rfl h1 ?_
        refine RW.guardF rfl rfl rfl h1 ?_
        refine RW.guardF rfl rfl rfl h1 ?_
        refine RW.pickC rfl rfl h1 rfl ?_
        refine RW.move rfl rfl ?_
        refine RW.guardF rfl rfl rfl rfl ?_
        refine RW.guardF rfl rfl rfl rfl ?_
        refine RW.guardF rfl rfl rfl rfl ?_
        refine RW.guardF rfl rfl rfl rfl ?_
        refine RW.pickC rfl rfl rfl rfl ?_
        refine RW.move rfl rfl ?_
        refine RW.guardF rfl rfl rfl rfl ?_
        refine RW.guardF rfl rfl rfl rfl ?_
        refine RW.guardF rfl rfl rfl rfl ?_
        refine RW.guardF rfl rfl rfl rfl ?_
        refine RW.pickC rfl rfl rfl rfl ?_
        refine RW.move rfl rfl ?_
        refine RW.guardF rfl rfl rfl rfl ?_
        refine RW.guardF rfl rfl rfl rfl ?_
        refine RW.guardF rfl rfl rfl rfl ?_
        refine RW.guardU rfl rfl rfl ?_
        refine RW.guardU rfl rfl rfl ?_
        refine RW.guardU rfl rfl rfl ?_
        refine RW.guardF rfl rfl rfl rfl ?_
        refine RW.pickC rfl rfl rfl rfl ?_
        refine RW.assign rfl rfl ?_
        refine RW.nil (EX.seq (CW.ret ?_))
        refine EX.fin1 Tryd.results16 rfl (fun wz hw => ?_)
        -- mq: done
        refine ⟨?_, (hw.unbase hx1 hcv).ext⟩
        rw [toldB_acc, hacc, show decide (0 ≤ b.ph ∧ b.ph ≤ 4) = false from by exact decide_eq_false (by have := of_decide_eq_false h1; omega)]; rfl
end Go.Proofs.YtnkdabjahmjdoaaDoor.Mq

namespace Go.Proofs.YtnkdabjahmjdoaaDoor.Mq
open Go Go.RowKit Go.Proofs

theorem hexT_snoc {s : List UInt8} {k : Nat} {c : UInt8} (h : s[k]? = some c) : hexT (s.take (k + 1)) = hexT (s.take k) ++ [hexDig (c.toNat / 16)] ++ [hexDig (c.toNat % 16)] := by
  unfold hexT
  rw [hexP_take h, hex2]; simp
theorem and15 (c : UInt8) : IntKind.u8.wrap ((BitVec.ofInt IntKind.u8.bits (c.toNat : Int) &&& BitVec.ofInt IntKind.u8.bits 15).toNat : Int) = ((c.toNat % 16 : Nat) : Int) :=
  and_eq (m := c.toNat) (n := 15) rfl rfl (UInt8.toNat_lt c) (by decide) (by
    have e : c.toNat &&& 15 = c.toNat % 16 := Nat.and_two_pow_sub_one_eq_mod c.toNat 4
    rw [e, wrapN8 (by omega) (by omega)])
theorem data_c (w : World) (s : List UInt8) (hs : s.length ≤ 1000000) :
    Calls Tryd.prog 30 [.string (bs s)].toArray w (fun e w' => e = .returned (.string (bs (hexT s))) ∧ Ext [] w w') := by
  refine calls (n := 25) Tryd.func30 rfl Tryd.ntmps30 rfl ?_
  refine CW.sub (H' := SH w [] []) ?_ (Sub.refl _) (fun x hx => SH.start' _ _ hx)
  refine CW.seq (CW.region ?_)
  refine RW.assign rfl rfl ?_
  refine RW.nil (EX.seq (CW.seq (CW.region ?_)))
  refine RW.allocA ag79 rfl (fun g3 hg3 hf3 => ?_)
  refine RW.nil (EX.seq (CW.seq ?_))
  -- mq: region
  refine CW.region ?_
  refine RW.callI (v := .nilIface) (H' := BldH w g3 [61]) rfl caWB rfl (fun w' hw' => writeByte_c w g3 [] 61 w' (BldH.start hg3 hw') (by decide)) ?_
  refine RW.nil (EX.seq (CW.seq (CW.seq (CW.region ?_))))
  refine RW.assign rfl rfl ?_
  refine RW.nil (EX.seq (CW.block ?_))
  -- mq: loop
  refine CW.loop (ι := Nat) (fun i => [(0, .string (bs s)), (3, .pointer (some ⟨g3, 0, none⟩)), (4, .int .i64 (i : Int))]) (fun i => BldH w g3 (hexT (s.take i))) (fun i => i ≤ s.length) (fun i => s.length - i) ?_ ?_
  · exact fun w' hw' => ⟨0, Nat.zero_le _, (by repeat (first | exact Sub.nil | refine Sub.cons (by rfl) ?_)), hw'⟩
  · rintro i hi
    have hl1 := hexP_len (s.take i)
    have hl3 : (s.take i).length = i := by rw [List.length_take]; omega
    have hl4 : (hexT (s.take i)).length = 2 * i + 1 := by unfold hexT; rw [List.length_cons, hl1, hl3]
    refine CW.seq (CW.seq (CW.region ?_))
    refine RW.move rfl rfl ?_
    refine RW.move rfl rfl ?_
    refine RW.lenS Tryd.underlying9 rfl rfl ?_
    refine RW.lss rfl rfl rfl ?_
    refine RW.nil (EX.seq ?_)
    -- mq: cond
    first | refine CW.condD rfl (fun hlt => ?_) (fun hlt => ?_) | refine CW.cond rfl (fun hlt => ?_) (fun hlt => ?_)
    · skip
      obtain ⟨c, hc⟩ : ∃ c, s[i]? = some c := ⟨s[i]'(by omega), List.getElem?_eq_getElem _⟩
      have hc8 := UInt8.toNat_lt c
      have hsn := hexT_snoc hc
      refine CW.skip (EX.seq (CW.seq (CW.block (CW.seq (CW.region ?_)))))
      refine RW.move rfl rfl ?_
      refine RW.move rfl rfl ?_
      refine RW.ixStr (q := i) Tryd.underlying9 rfl rfl rfl (by omega) hc ?_
      refine RW.shrN (r := ((c.toNat / 16 : Nat) : Int)) rfl rfl rfl (by decide) (by rfl) ?_
      refine RW.ixStr (q := c.toNat / 16) Tryd.underlying9 rfl rfl rfl (by omega) (hexL_at (c.toNat / 16) (by omega)) ?_
      refine RW.callI (v := .nilIface) (H' := BldH w g3 (hexT (s.take i) ++ [hexDig (c.toNat / 16)])) rfl caWB rfl (fun w' hw' => writeByte_c w g3 _ _ w' hw' (by omega)) ?_
      refine RW.nil (EX.seq ?_)
      -- mq: region
      refine CW.region ?_
      refine RW.move rfl rfl ?_
      refine RW.move rfl rfl ?_
      refine RW.ixStr (q := i) Tryd.underlying9 rfl rfl rfl (by omega) hc ?_
      refine RW.and_ (r := ((c.toNat % 16 : Nat) : Int)) rfl rfl rfl (and15 c) ?_
      refine RW.ixStr (q := c.toNat % 16) Tryd.underlying9 rfl rfl rfl (by omega) (hexL_at (c.toNat % 16) (by omega)) ?_
      refine RW.callI (v := .nilIface) (H' := BldH w g3 (hexT (s.take (i + 1)))) rfl caWB rfl (fun w' hw' => by rw [hsn]; exact writeByte_c w g3 _ _ w' hw' (by simp; omega)) ?_
      refine RW.nil (EX.bkN (EX.seq (CW.region ?_)))
      refine RW.move rfl rfl ?_
      refine RW.add rfl rfl rfl (wrap64 (by omega) (by omega)) ?_
      refine RW.assign rfl rfl ?_
      refine RW.nil ?_
      -- mq: loopend
      exact EX.lpN (i + 1) (by omega) (by omega) (by repeat (first | exact Sub.nil | refine Sub.cons (by rfl) ?_)) (fun w' hw' => hw')
    · skip
      have his : s.take i = s := List.take_of_length_le (by omega)
      rw [his]
      refine CW.exit (EX.seqE (EX.lpE (EX.bkE (EX.seq (CW.seq (CW.region ?_))))))
      -- mq: op 0: ('Op.call', ('Call.mk', ('Callee.value', ('Operand.func', '50')), ('arr', ('Operand.tmp', '3')), ('arr', '79'))) -> slot 24 ("dump.go:43")
      refine RW.callI (v := .string (bs (hexT s))) (H' := fun w' => Ext [] w w') rfl caBS rfl (fun w' hw' => bldString_c w g3 _ w' hw') ?_
      refine RW.assign rfl rfl ?_
      refine RW.nil (EX.seq (CW.ret ?_))
      refine EX.fin1 Tryd.results30 rfl (fun wz hw => ?_)
      -- mq: done
      exact ⟨rfl, hw⟩
theorem caFU : CaT Tryd.prog 23 := CaT.of Tryd.func23 (by kernel_rfl) (by kernel_rfl)
def dotC (c : UInt8) : UInt8 := if c.toNat < 32 ∨ c.toNat = 127 then 46 else c
theorem SH.byt_u8 {b : World} {S : List Nat} {cs : List Chunk} {w : World} (h : SH b S cs w) {g e : Nat} {L : List UInt8} (hc : Has cs (byt g e (EU8.all L))) {k : Nat} {a : UInt8} (hk : L[k]? = some a) : w.cell? ((⟨g, 0, none⟩ : Addr).add (k * 1)) = some (.int .u8 (a.toNat : Int)) := by
  rw [Addr.add_lit, Nat.zero_add]
  exact h.byt_cell hc (EU8.all_get (j := 0) hk rfl)
def dots (l : List UInt8) (i : Nat) : List UInt8 := (l.take i).map dotC ++ l.drop i
theorem dots_at {l : List UInt8} {i : Nat} {c : UInt8} (h : l[i]? = some c) : (dots l i)[i]? = some c := by
  have hlt := (List.getElem?_eq_some_iff.1 h).1
  unfold dots
  rw [List.getElem?_append_right (by rw [List.length_map, List.length_take]; omega), List.length_map, List.length_take, Nat.min_eq_left (by omega), Nat.sub_self, List.getElem?_drop]
  exact h
theorem dots_set {l : List UInt8} {i : Nat} {c : UInt8} (h : l[i]? = some c) : (dots l i).set i (dotC c) = dots l (i + 1) := by
  have hlt := (List.getElem?_eq_some_iff.1 h).1
  unfold dots
  rw [List.set_append_right _ _ (by rw [List.length_map, List.length_take]; omega), List.length_map, List.length_take, Nat.min_eq_left (by omega), Nat.sub_self, List.take_add_one, h]
  have hd : l.drop i = c :: l.drop (i + 1) := by
    rw [List.drop_eq_getElem_cons hlt, (List.getElem?_eq_some_iff.1 h).2]
  rw [hd]
  simp
theorem dots_len (l : List UInt8) (i : Nat) : (dots l i).length = l.length := by
  unfold dots
  rw [List.length_append, List.length_map, List.length_take, List.length_drop]; omega
theorem set_self {l : List UInt8} {i : Nat} {c : UInt8} (h : l[i]? = some c) : l.set i c = l := by
  obtain ⟨hlt, rfl⟩ := List.getElem?_eq_some_iff.1 h
  exact List.set_getElem_self hlt
def phW (n : Int) : List UInt8 := if 0 ≤ n ∧ n ≤ 4 then phaseW n else [63]
def brief1 (b : BlkV) : List UInt8 := [91] ++ Lib.decDigits b.id ++ [93, 32] ++ phW b.ph
def brief2 (b : BlkV) : List UInt8 := brief1 b ++ (if b.has = true then 32 :: Lib.itoa b.code else [])
def briefF (b : BlkV) : List UInt8 := brief2 b ++ (if b.line = [] then [] else 32 :: b.line.map dotC)
theorem phW_len (n : Int) : (phW n).length ≤ 8 := by unfold phW phaseW; repeat (first | decide | split)
theorem itoa_len {n : Int} (h : In64 n) : (Lib.itoa n).length ≤ 21 := Lib.itoa_length_le n h.1 h.2
theorem brief1_len {b : BlkV} (hb : b.Wf) : (brief1 b).length ≤ 40 := by
  have h1 := dec_len20 hb.id
  have h2 := phW_len b.ph
  simp only [brief1, List.length_append, List.length_cons, List.length_nil]; omega
theorem brief2_len {b : BlkV} (hb : b.Wf) : (brief2 b).length ≤ 70 := by
  have h1 := brief1_len hb
  have h2 := itoa_len hb.code
  unfold brief2
  rw [List.length_append]
  split <;> simp <;> omega
theorem brief_c (w : World) (hg : Gl w) (b : BlkV) (hb : b.Wf) (hl : b.line.length ≤ 1000000) :
    Calls Tryd.prog 12 [.agg b.cells.toArray].toArray w (fun e w' => e = .returned (.string (bs (briefF b))) ∧ Ext [] w w') := by
  have hd := dec_len20 hb.id
  have hp := phW_len b.ph
  have hc := itoa_len hb.code
  have hb1 := brief1_len hb
  have hb2 := brief2_len hb
  refine calls (n := 61) Tryd.func12 rfl Tryd.ntmps12 rfl ?_
  refine CW.sub (H' := SH w [] []) ?_ (Sub.refl _) (fun x hx => SH.start' _ _ hx)
  refine CW.seq (CW.region ?_)
  refine RW.boxA rfl rfl (fun g1 hg1 hf1 => ?_)
  refine RW.assign rfl rfl ?_
  refine RW.nil (EX.seq (CW.seq ?_))
  -- mq: region
  refine CW.region ?_
  refine RW.fieldB fl26x1 rfl rfl ?_
  refine RW.loadB1 sc3 rfl rfl (by first | exact Has.head | exact Has.tail Has.head | exact Has.tail (Has.tail Has.head) | exact Has.tail (Has.tail (Has.tail Has.head)) | exact Has.tail (Has.tail (Has.tail (Has.tail Has.head))) | exact Has.tail (Has.tail (Has.tail (Has.tail (Has.tail Has.head)))) | exact Has.tail (Has.tail (Has.tail (Has.tail (Has.tail (Has.tail Has.head)))))) rfl ?_
  refine RW.call rfl ca11 rfl (fun w' _ => phase_c w' b.ph) ?_
  refine RW.move rfl rfl ?_
  refine RW.extract rfl rfl rfl ?_
  refine RW.extract rfl rfl rfl ?_
  refine RW.assign rfl rfl ?_
  refine RW.assign rfl rfl ?_
  refine RW.nil (EX.seq (CW.seq ?_))
  -- mq: seq
  refine CW.join ([(1, .pointer (some ⟨g1, 0, none⟩)), (3, .string (bs (phW b.ph)))]) (SH w [] [blk g1 b.cells 26]) ?_ ?_
  · skip
    refine CW.seq (CW.region ?_)
    refine RW.move rfl rfl ?_
    refine RW.not_ rfl rfl ?_
    refine RW.nil (EX.seq ?_)
    -- mq: cond
    first | refine CW.condD rfl (fun h1 => ?_) (fun h1 => ?_) | refine CW.cond rfl (fun h1 => ?_) (fun h1 => ?_)
    · skip
      refine CW.region ?_
      refine RW.assign rfl rfl ?_
      refine RW.nil ?_
      -- mq: joinend
      rw [show phW b.ph = [63] from if_neg (of_decide_eq_false (nb_f h1))]
      exact EX.jn (by repeat (first | exact Sub.nil | refine Sub.cons (by rfl) ?_)) (fun _ h => h)
    · skip
      refine CW.skip ?_
      -- mq: joinend
      rw [show phW b.ph = phaseW b.ph from if_pos (of_decide_eq_true (nb_t h1))]
      exact EX.jn (by repeat (first | exact Sub.nil | refine Sub.cons (by rfl) ?_)) (fun _ h => h)
  · skip
    refine EX.seq (CW.seq (CW.region ?_))
    refine RW.fieldB fl26x0 rfl rfl ?_
    refine RW.loadB1 sc22 rfl rfl (by first | exact Has.head | exact Has.tail Has.head | exact Has.tail (Has.tail Has.head) | exact Has.tail (Has.tail (Has.tail Has.head)) | exact Has.tail (Has.tail (Has.tail (Has.tail Has.head))) | exact Has.tail (Has.tail (Has.tail (Has.tail (Has.tail Has.head)))) | exact Has.tail (Has.tail (Has.tail (Has.tail (Has.tail (Has.tail Has.head)))))) rfl ?_
    refine RW.call rfl caFU rfl (fun w' hw' => formatUint_c w' (hg.ext hw'.ext) b.id hb.id) ?_
    refine RW.catS rfl rfl rfl (by first | omega | (simp only [List.length_append, List.length_cons, List.length_nil]; omega)) ?_
    refine RW.catS rfl rfl rfl (by first | omega | (simp only [List.length_append, List.length_cons, List.length_nil]; omega)) ?_
    refine RW.move rfl rfl ?_
    refine RW.catS rfl rfl rfl (by first | omega | (simp only [List.length_append, List.length_cons, List.length_nil]; omega)) ?_
    refine RW.assign rfl rfl ?_
    refine RW.nil (EX.seq (CW.seq ?_))
    -- mq: seq
    refine CW.join ([(1, .pointer (some ⟨g1, 0, none⟩)), (5, .string (bs (brief2 b)))]) (SH w [] [blk g1 b.cells 26]) ?_ ?_
    · skip
      refine CW.seq (CW.region ?_)
      refine RW.fieldB fl26x8 rfl rfl ?_
      refine RW.loadB1 sc4 rfl rfl (by first | exact Has.head | exact Has.tail Has.head | exact Has.tail (Has.tail Has.head) | exact Has.tail (Has.tail (Has.tail Has.head)) | exact Has.tail (Has.tail (Has.tail (Has.tail Has.head))) | exact Has.tail (Has.tail (Has.tail (Has.tail (Has.tail Has.head)))) | exact Has.tail (Has.tail (Has.tail (Has.tail (Has.tail (Has.tail Has.head)))))) rfl ?_
      refine RW.nil (EX.seq ?_)
      -- mq: cond
      first | refine CW.condD rfl (fun h2 => ?_) (fun h2 => ?_) | refine CW.cond rfl (fun h2 => ?_) (fun h2 => ?_)
      · skip
        refine CW.region ?_
        refine RW.move rfl rfl ?_
        refine RW.fieldB fl26x7 rfl rfl ?_
        refine RW.loadB1 sc3 rfl rfl (by first | exact Has.head | exact Has.tail Has.head | exact Has.tail (Has.tail Has.head) | exact Has.tail (Has.tail (Has.tail Has.head)) | exact Has.tail (Has.tail (Has.tail (Has.tail Has.head))) | exact Has.tail (Has.tail (Has.tail (Has.tail (Has.tail Has.head)))) | exact Has.tail (Has.tail (Has.tail (Has.tail (Has.tail (Has.tail Has.head)))))) rfl ?_
        refine RW.call rfl caItoa rfl (fun w' hw' => itoa_c w' (hg.ext hw'.ext) b.code hb.code) ?_
        refine RW.catS rfl rfl rfl (by first | omega | (simp only [List.length_append, List.length_cons, List.length_nil]; omega)) ?_
        refine RW.catS rfl rfl rfl (by first | omega | (simp only [List.length_append, List.length_cons, List.length_nil]; omega)) ?_
        refine RW.assign rfl rfl ?_
        refine RW.nil ?_
        -- mq: joinend
        rw [brief2, if_pos h2]
        exact EX.jn (by repeat (first | exact Sub.nil | refine Sub.cons (by rfl) ?_)) (fun _ h => h)
      · skip
        refine CW.skip ?_
        -- mq: joinend
        rw [brief2, if_neg (by simp [h2]), List.append_nil]
        exact EX.jn (by repeat (first | exact Sub.nil | refine Sub.cons (by rfl) ?_)) (fun _ h => h)
    · skip
      refine EX.seq (CW.seq (CW.seq (CW.region ?_)))
      refine RW.fieldB fl26x11 rfl rfl ?_
      refine RW.loadB1 sc9 rfl rfl (by first | exact Has.head | exact Has.tail Has.head | exact Has.tail (Has.tail Has.head) | exact Has.tail (Has.tail (Has.tail Has.head)) | exact Has.tail (Has.tail (Has.tail (Has.tail Has.head))) | exact Has.tail (Has.tail (Has.tail (Has.tail (Has.tail Has.head)))) | exact Has.tail (Has.tail (Has.tail (Has.tail (Has.tail (Has.tail Has.head)))))) rfl ?_
      refine RW.neqS rfl rfl rfl ?_
      refine RW.nil (EX.seq ?_)
      -- mq: cond
      first | refine CW.condD rfl (fun h3 => ?_) (fun h3 => ?_) | refine CW.cond rfl (fun h3 => ?_) (fun h3 => ?_)
      · skip
        refine CW.seq (CW.region ?_)
        refine RW.fieldB fl26x11 rfl rfl ?_
        refine RW.loadB1 sc9 rfl rfl (by first | exact Has.head | exact Has.tail Has.head | exact Has.tail (Has.tail Has.head) | exact Has.tail (Has.tail (Has.tail Has.head)) | exact Has.tail (Has.tail (Has.tail (Has.tail Has.head))) | exact Has.tail (Has.tail (Has.tail (Has.tail (Has.tail Has.head)))) | exact Has.tail (Has.tail (Has.tail (Has.tail (Has.tail (Has.tail Has.head)))))) rfl ?_
        -- mq: at
        refine RW.strBytes Tryd.underlying9 Tryd.underlying53 Tryd.underlying5 rfl rfl hl (fun gb cb hgb hfb hcb1 hcb2 => ?_)
        refine RW.assign rfl rfl ?_
        refine RW.nil (EX.seq (CW.seq (CW.seq (CW.region ?_))))
        refine RW.move rfl rfl ?_
        refine RW.lenSl Tryd.underlying53 rfl rfl ?_
        refine RW.move rfl rfl ?_
        refine RW.nil (EX.seq (CW.block ?_))
        -- mq: loop
        refine CW.loop (ι := Nat) (fun i => [(1, .pointer (some ⟨g1, 0, none⟩)), (5, .string (bs (brief2 b))), (6, .slice (some ⟨gb, 0, none⟩) b.line.length cb), (38, .slice (some ⟨gb, 0, none⟩) b.line.length cb), (39, .int .i64 (b.line.length : Int)), (40, .int .i64 (i : Int))]) (fun i => SH w [] [byt gb 5 (EU8.all (dots b.line i)), blk g1 b.cells 26]) (fun i => i ≤ b.line.length) (fun i => b.line.length - i) ?_ ?_
        · exact fun w' hw' => ⟨0, Nat.zero_le _, (by repeat (first | exact Sub.nil | refine Sub.cons (by rfl) ?_)), hw'⟩
        · rintro i hi
          refine CW.seq (CW.region ?_)
          refine RW.lss rfl rfl rfl ?_
          refine RW.nil (EX.seq (CW.seq ?_))
          -- mq: cond
          first | refine CW.condD rfl (fun hlt => ?_) (fun hlt => ?_) | refine CW.cond rfl (fun hlt => ?_) (fun hlt => ?_)
          · skip
            obtain ⟨c, hc1⟩ : ∃ c, b.line[i]? = some c := ⟨b.line[i]'(by omega), List.getElem?_eq_getElem _⟩
            have hc8 := UInt8.toNat_lt c
            have hat := dots_at hc1
            have hset := dots_set hc1
            have hdl := dots_len b.line i
            have hsame : ¬ (c.toNat < 32 ∨ c.toNat = 127) → dots b.line i = dots b.line (i + 1) := fun hn => by
              rw [← hset, dotC, if_neg hn, set_self hat]
            have hnew : (c.toNat < 32 ∨ c.toNat = 127) → (EU8.all (dots b.line i)).set i (.int .u8 46) = EU8.all (dots b.line (i + 1)) := fun hn => by
              have := EU8.all_set (j := 0) (a' := 46) (v := .int .u8 46) hat (by decide) rfl
              rw [← hset, dotC, if_pos hn]
              rw [show i * EU8.sz + 0 = i from Nat.mul_one i] at this
              exact this
            refine CW.skip (EX.seq (CW.seq (CW.block (CW.seq (CW.region ?_)))))
            refine RW.move rfl rfl ?_
            refine RW.ixAddr (q := i) sl53 rfl rfl rfl (by first | rfl | assumption) (by omega) (by omega) ?_
            refine RW.load1 sc5 rfl rfl (fun w' hw' => hw'.byt_u8 Has.head hat) ?_
            refine RW.assign rfl rfl ?_
            refine RW.assign rfl rfl ?_
            refine RW.nil (EX.seq (CW.seq (CW.region ?_)))
            refine RW.move rfl rfl ?_
            refine RW.lss rfl rfl rfl ?_
            refine RW.move rfl rfl ?_
            -- mq: guard slot 47
            refine RW.casesB 47 rfl (fun h4 => ?_) (fun h4 => ?_)
            · skip
              have h4p := of_decide_eq_true h4
              refine RW.guardF rfl rfl rfl h4 ?_
              refine RW.guardF rfl rfl rfl h4 ?_
              refine RW.pickB rfl rfl h4 rfl ?_
              refine RW.nil (EX.seq ?_)
              -- mq: cond
              refine CW.condT rfl (rfl) ?_
              refine CW.region ?_
              refine RW.move rfl rfl ?_
              refine RW.move rfl rfl ?_
              refine RW.ixAddr (q := i) sl53 rfl rfl rfl (by first | rfl | assumption) (by omega) (by omega) ?_
              -- mq: at
              refine RW.storeByt (o := i) sc5 rfl rfl Upd.head (by rw [Addr.add_lit]; simp) rfl (by rw [EU8.all_length, hdl]; show i < b.line.length * 1; omega) ?_
              rw [hnew (.inl (by omega))]
              refine RW.nil (EX.bkN (EX.seq (CW.region ?_)))
              refine RW.add rfl rfl rfl (wrap64 (by omega) (by omega)) ?_
              refine RW.move rfl rfl ?_
              refine RW.nil ?_
              -- mq: loopend
              exact EX.lpN (i + 1) (by omega) (by omega) (by repeat (first | exact Sub.nil | refine Sub.cons (by rfl) ?_)) (fun w' hw' => hw')
            · skip
              have h4p := of_decide_eq_false h4
              refine RW.guardT rfl rfl h4 ?_
              refine RW.move rfl rfl ?_
              refine RW.guardT rfl rfl h4 ?_
              refine RW.eqlI rfl rfl rfl ?_
              refine RW.pickC rfl rfl h4 rfl ?_
              refine RW.nil (EX.seq ?_)
              -- mq: cond
              first | refine CW.condD rfl (fun h5 => ?_) (fun h5 => ?_) | refine CW.cond rfl (fun h5 => ?_) (fun h5 => ?_)
              · skip
                refine CW.region ?_
                refine RW.move rfl rfl ?_
                refine RW.move rfl rfl ?_
                refine RW.ixAddr (q := i) sl53 rfl rfl rfl (by first | rfl | assumption) (by omega) (by omega) ?_
                -- mq: at
                refine RW.storeByt (o := i) sc5 rfl rfl Upd.head (by rw [Addr.add_lit]; simp) rfl (by rw [EU8.all_length, hdl]; show i < b.line.length * 1; omega) ?_
                rw [hnew (.inr (by omega))]
                refine RW.nil (EX.bkN (EX.seq (CW.region ?_)))
                refine RW.add rfl rfl rfl (wrap64 (by omega) (by omega)) ?_
                refine RW.move rfl rfl ?_
                refine RW.nil ?_
                -- mq: loopend
                exact EX.lpN (i + 1) (by omega) (by omega) (by repeat (first | exact Sub.nil | refine Sub.cons (by rfl) ?_)) (fun w' hw' => hw')
              · skip
                refine CW.skip (EX.bkN (EX.seq (CW.region ?_)))
                refine RW.add rfl rfl rfl (wrap64 (by omega) (by omega)) ?_
                refine RW.move rfl rfl ?_
                refine RW.nil ?_
                -- mq: loopend
                exact EX.lpN (i + 1) (by omega) (by omega) (by repeat (first | exact Sub.nil | refine Sub.cons (by rfl) ?_)) (fun w' hw' => by rw [hsame (by omega)] at hw'; exact hw')
          · skip
            obtain rfl : i = b.line.length := by omega
            have hdm : dots b.line b.line.length = b.line.map dotC := by unfold dots; rw [List.take_length, List.drop_length, List.append_nil]
            have hml : (b.line.map dotC).length = b.line.length := List.length_map _
            rw [hdm]
            refine CW.exit (EX.seqE (EX.lpE (EX.bkE (EX.seq ?_))))
            -- mq: region
            refine CW.region ?_
            refine RW.move rfl rfl ?_
            refine RW.move rfl rfl ?_
            -- mq: at
            refine RW.bytesStr (s := b.line.map dotC) Tryd.underlying53 Tryd.underlying5 Tryd.underlying9 rfl rfl (fun w' hw' => by have := Rd.of_byt (E := EU8) hw' Has.head (c := cb) (by omega) hcb2; rwa [hml] at this) ?_
            refine RW.catS rfl rfl rfl (by first | omega | (simp only [List.length_append, List.length_cons, List.length_nil]; omega)) ?_
            refine RW.catS rfl rfl rfl (by first | omega | (simp only [List.length_append, List.length_cons, List.length_nil]; omega)) ?_
            refine RW.assign rfl rfl ?_
            refine RW.nil (EX.seq (CW.seq (CW.region ?_)))
            refine RW.move rfl rfl ?_
            refine RW.assign rfl rfl ?_
            refine RW.nil (EX.seq (CW.ret ?_))
            refine EX.fin1 Tryd.results12 rfl (fun wz hw => ?_)
            -- mq: done
            refine ⟨?_, hw.ext⟩
            rw [briefF, if_neg (by simpa using h3)]
            rfl
      · skip
        refine CW.skip (EX.seq (CW.seq (CW.region ?_)))
        refine RW.move rfl rfl ?_
        refine RW.assign rfl rfl ?_
        refine RW.nil (EX.seq (CW.ret ?_))
        refine EX.fin1 Tryd.results12 rfl (fun wz hw => ?_)
        -- mq: done
        exact ⟨by rw [briefF, if_pos (by simpa using h3), List.append_nil], hw.ext⟩
end Go.Proofs.YtnkdabjahmjdoaaDoor.Mq
