/- dump: blocks as plain data; their lines; unlike blocks have unlike lines -/
import Derived.Test.YtnkdabjahmjdoaaDoorTd
namespace Go.Proofs.YtnkdabjahmjdoaaDoor.Mq
open Go Go.RowKit Go.Proofs

structure BlkV where
  id : Nat
  ph : Int
  r1 : Int
  c1 : Int
  r2 : Int
  c2 : Int
  r3 : Int
  c3 : Int
  r4 : Int
  c4 : Int
  r5 : Int
  c5 : Int
  code : Int
  has : Bool
  cut : Bool
  dir : List UInt8
  line : List UInt8
abbrev BlkV.cells (b : BlkV) : List Value := [.int .u64 (b.id : Int), .int .i64 b.ph, .int .i64 b.r1, .int .i64 b.c1, .int .i64 b.r2, .int .i64 b.c2, .int .i64 b.r3, .int .i64 b.c3, .int .i64 b.r4, .int .i64 b.c4, .int .i64 b.r5, .int .i64 b.c5, .int .i64 b.code, .bool b.has, .bool b.cut, .string (bs b.dir), .string (bs b.line)]
def EBlk : Enc BlkV := ⟨fun b => b.cells, 17, fun _ => rfl, fun _ => by repeat (first | exact Ones.nil | refine Ones.cons rfl ?_)⟩
def BlkV.pos (b : BlkV) : List (Int × Int) := [(b.r1, b.c1), (b.r2, b.c2), (b.r3, b.c3), (b.r4, b.c4), (b.r5, b.c5)]
/-- what a block's numbers may be -/
structure BlkV.Wf (b : BlkV) : Prop where
  id : b.id < 18446744073709551616
  code : In64 b.code
  pos : ∀ p ∈ b.pos, In64 p.1 ∧ In64 p.2
def phaseW (n : Int) : List UInt8 := if n = 0 then [117, 110, 109, 97, 114, 107, 101, 100] else if n = 1 then [112, 114, 111, 109, 112, 116] else if n = 2 then [105, 110, 112, 117, 116] else if n = 3 then [111, 117, 116, 112, 117, 116] else if n = 4 then [101, 110, 100, 101, 100] else []
def rightP (p : Int × Int) : Bool := decide (0 ≤ p.1 ∧ p.1 ≤ 1099511627776 ∧ 0 ≤ p.2 ∧ p.2 ≤ 1099511627776)
def toldB (b : BlkV) : Bool := decide (0 ≤ b.ph ∧ b.ph ≤ 4) && b.pos.all rightP && decide (b.dir.length ≤ 256) && decide (b.line.length ≤ 256) && (b.has || decide (b.code = 0))
def cutW (b : Bool) : List UInt8 := if b then [99, 117, 116] else [119, 104, 111, 108, 101]
def codeW (has : Bool) (n : Int) : List UInt8 := if has then Lib.itoa n else [45]
def posW (l : List (Int × Int)) : List (List UInt8) := l.flatMap (fun p => [Lib.itoa p.1, Lib.itoa p.2])
def wordsF (b : BlkV) : List (List UInt8) := [98, 108, 111, 99, 107] :: Lib.decDigits b.id :: phaseW b.ph :: cutW b.cut :: codeW b.has b.code :: (posW b.pos ++ [hexT b.dir, hexT b.line])
/-- a block's line -/
def lineF (b : BlkV) : List UInt8 := Lib.join (wordsF b) [32]
theorem toldB_iff {b : BlkV} : toldB b = true ↔ (0 ≤ b.ph ∧ b.ph ≤ 4) ∧ (∀ p ∈ b.pos, rightP p = true) ∧ b.dir.length ≤ 256 ∧ b.line.length ≤ 256 ∧ (b.has = true ∨ b.code = 0) := by
  unfold toldB
  simp only [Bool.and_eq_true, Bool.or_eq_true, decide_eq_true_eq, List.all_eq_true]
  constructor
  · rintro ⟨⟨⟨⟨h1, h2⟩, h3⟩, h4⟩, h5⟩; exact ⟨h1, h2, h3, h4, h5⟩
  · rintro ⟨h1, h2, h3, h4, h5⟩; exact ⟨⟨⟨⟨h1, h2⟩, h3⟩, h4⟩, h5⟩
theorem phaseW_no (n : Int) : (32 : UInt8) ∉ phaseW n := by unfold phaseW; repeat (first | decide | split)
theorem phaseW_inj {m n : Int} (hm : 0 ≤ m ∧ m ≤ 4) (hn : 0 ≤ n ∧ n ≤ 4) (h : phaseW m = phaseW n) : m = n := by
  have hm' : m = 0 ∨ m = 1 ∨ m = 2 ∨ m = 3 ∨ m = 4 := by omega
  have hn' : n = 0 ∨ n = 1 ∨ n = 2 ∨ n = 3 ∨ n = 4 := by omega
  rcases hm' with rfl | rfl | rfl | rfl | rfl <;> rcases hn' with rfl | rfl | rfl | rfl | rfl <;> first | rfl | (exact absurd h (by decide))
theorem wordsF_no (b : BlkV) : ∀ x ∈ wordsF b, (32 : UInt8) ∉ x := by
  intro x hx
  unfold wordsF at hx
  rcases List.mem_cons.1 hx with rfl | hx
  · decide
  rcases List.mem_cons.1 hx with rfl | hx
  · intro h; have := dec_digit _ _ h; revert this; decide
  rcases List.mem_cons.1 hx with rfl | hx
  · exact phaseW_no _
  rcases List.mem_cons.1 hx with rfl | hx
  · unfold cutW; split <;> decide
  rcases List.mem_cons.1 hx with rfl | hx
  · unfold codeW; split
    · exact itoa_no (by decide)
    · decide
  rcases List.mem_append.1 hx with hx | hx
  · obtain ⟨p, _, hp⟩ := List.mem_flatMap.1 hx
    simp only [List.mem_cons, List.not_mem_nil, or_false] at hp
    rcases hp with rfl | rfl
    · exact itoa_no (by decide)
    · exact itoa_no (by decide)
  · simp only [List.mem_cons, List.not_mem_nil, or_false] at hx
    rcases hx with rfl | rfl
    · exact hexT_no (by decide)
    · exact hexT_no (by decide)
theorem words_line (b : BlkV) : fullP 32 (lineF b) = wordsF b := full_join 32 _ (by unfold wordsF; simp) (wordsF_no b)
theorem codeW_inj {h k : Bool} {m n : Int} (hm : h = true ∨ m = 0) (hn : k = true ∨ n = 0) (e : codeW h m = codeW k n) : h = k ∧ m = n := by
  have key : ∀ n : Int, Lib.itoa n ≠ [45] := by
    intro n e
    by_cases h0 : n < 0
    · rw [itoa_lt h0] at e; exact dec_ne _ (List.cons.inj e).2
    · rw [itoa_pos (by omega)] at e
      have := dec_digit n.toNat 45 (by rw [e]; simp)
      revert this; decide
  unfold codeW at e
  cases h <;> cases k <;> simp only [if_true, if_false, Bool.false_eq_true] at e
  · exact ⟨rfl, by simp at hm hn; omega⟩
  · exact absurd e.symm (key _)
  · exact absurd e (key _)
  · exact ⟨rfl, itoa_inj e⟩
theorem lineF_inj {a b : BlkV} (ha : toldB a = true) (hb : toldB b = true) (h : lineF a = lineF b) : a = b := by
  have hw : wordsF a = wordsF b := by rw [← words_line a, ← words_line b, h]
  obtain ⟨a1, a2, a3, a4, a5⟩ := toldB_iff.1 ha
  obtain ⟨b1, b2, b3, b4, b5⟩ := toldB_iff.1 hb
  obtain ⟨a01, a02, a03, a04, a05, a06, a07, a08, a09, a10, a11, a12, a13, a14, a15, a16, a17⟩ := a
  obtain ⟨b01, b02, b03, b04, b05, b06, b07, b08, b09, b10, b11, b12, b13, b14, b15, b16, b17⟩ := b
  simp only [wordsF, posW, BlkV.pos, List.flatMap_cons, List.flatMap_nil, List.cons_append, List.nil_append, List.append_nil, List.cons.injEq, and_true, true_and] at hw
  obtain ⟨e1, e2, e3, e4, e5, e6, e7, e8, e9, e10, e11, e12, e13, e14, e15, e16⟩ := hw
  have hc := codeW_inj a5 b5 e4
  have hcut : a15 = b15 := by
    unfold cutW at e3
    cases a15 <;> cases b15 <;> first | rfl | (simp at e3)
  have hd : a16 = b16 := hexP_inj (List.cons.inj e15).2
  have hl : a17 = b17 := hexP_inj (List.cons.inj e16).2
  dsimp only at a1 b1 hc
  rw [dec_inj e1, phaseW_inj a1 b1 e2, itoa_inj e5, itoa_inj e6, itoa_inj e7, itoa_inj e8, itoa_inj e9, itoa_inj e10, itoa_inj e11, itoa_inj e12, itoa_inj e13, itoa_inj e14, hc.1, hc.2, hcut, hd, hl]
end Go.Proofs.YtnkdabjahmjdoaaDoor.Mq
