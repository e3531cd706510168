/- cells, rows, places as data; what the plain functions on cells are -/
import Derived.Test.YtmdmdlfdijdhgaaTypes
namespace Go.Proofs.Ytmdmdlfdijdhgaa.Mq
open Go Go.RowKit Go.Proofs

structure AttrV where
  fk : Int
  fn : Int
  bk : Int
  bn : Int
  fl : Int
structure CellV where
  r : Int
  more : List UInt8
  half : Int
  at_ : AttrV
abbrev AttrV.enc (a : AttrV) : List Value := [.int .i64 a.fk, .int .i64 a.fn, .int .i64 a.bk, .int .i64 a.bn, .int .i64 a.fl]
abbrev CellV.enc (c : CellV) : List Value := [.int .i32 c.r, .string (bs c.more), .int .i64 c.half, .int .i64 c.at_.fk, .int .i64 c.at_.fn, .int .i64 c.at_.bk, .int .i64 c.at_.bn, .int .i64 c.at_.fl]
def ECell : Enc CellV := ⟨CellV.enc, 8, fun _ => rfl, fun _ => by repeat (first | exact Ones.nil | refine Ones.cons rfl ?_)⟩
structure RowV where
  A : Option Addr
  n : Nat
  c : Nat
  cont : Bool
abbrev RowV.enc (r : RowV) : List Value := [.slice r.A r.n r.c, .bool r.cont]
def ERow : Enc RowV := ⟨RowV.enc, 2, fun _ => rfl, fun _ => Ones.cons rfl (Ones.cons rfl Ones.nil)⟩
structure PosV where
  row : Int
  col : Int
  deriving DecidableEq
abbrev PosV.enc (p : PosV) : List Value := [.int .i64 p.row, .int .i64 p.col]
def EPos : Enc PosV := ⟨PosV.enc, 2, fun _ => rfl, fun _ => Ones.cons rfl (Ones.cons rfl Ones.nil)⟩
def EPair : Enc (Int × Int) := ⟨fun p => [.int .i64 p.1, .int .i64 p.2], 2, fun _ => rfl, fun _ => Ones.cons rfl (Ones.cons rfl Ones.nil)⟩
def EInt : Enc Int := ⟨fun p => [.int .i64 p], 1, fun _ => rfl, fun _ => Ones.cons rfl Ones.nil⟩

theorem AttrV.ext' {a b : AttrV} (h1 : a.fk = b.fk) (h2 : a.fn = b.fn) (h3 : a.bk = b.bk) (h4 : a.bn = b.bn) (h5 : a.fl = b.fl) : a = b := by
  cases a; cases b; simp_all
theorem CellV.ext' {a b : CellV} (h1 : a.r = b.r) (h2 : a.more = b.more) (h3 : a.half = b.half) (h4 : a.at_ = b.at_) : a = b := by
  cases a; cases b; simp_all
instance : DecidableEq AttrV := fun a b =>
  if h : a.fk = b.fk ∧ a.fn = b.fn ∧ a.bk = b.bk ∧ a.bn = b.bn ∧ a.fl = b.fl then isTrue (AttrV.ext' h.1 h.2.1 h.2.2.1 h.2.2.2.1 h.2.2.2.2)
  else isFalse fun e => h (by subst e; exact ⟨rfl, rfl, rfl, rfl, rfl⟩)
instance : DecidableEq CellV := fun a b =>
  if h : a.r = b.r ∧ a.more = b.more ∧ a.half = b.half ∧ a.at_ = b.at_ then isTrue (CellV.ext' h.1 h.2.1 h.2.2.1 h.2.2.2)
  else isFalse fun e => h (by subst e; exact ⟨rfl, rfl, rfl, rfl⟩)
theorem eqv_attr (a b : AttrV) : eqv a.enc b.enc = decide (a = b) := by
  rw [Bool.eq_iff_iff]
  simp only [eqv, veq, Bool.and_eq_true, decide_eq_true_eq, Bool.and_true]
  constructor
  · rintro ⟨h1, h2, h3, h4, h5⟩; exact AttrV.ext' h1 h2 h3 h4 h5
  · rintro rfl; simp
theorem eqv_cell (a b : CellV) : eqv a.enc b.enc = decide (a = b) := by
  rw [Bool.eq_iff_iff]
  simp only [eqv, veq, Bool.and_eq_true, decide_eq_true_eq, Bool.and_true, bs]
  constructor
  · rintro ⟨h1, h2, h3, h4, h5, h6, h7, h8⟩; exact CellV.ext' h1 (by simpa using h2) h3 (AttrV.ext' h4 h5 h6 h7 h8)
  · rintro rfl; simp
theorem eqv_pos (a b : PosV) : eqv a.enc b.enc = decide (a = b) := by
  rw [Bool.eq_iff_iff]
  simp only [eqv, veq, Bool.and_eq_true, decide_eq_true_eq, Bool.and_true]
  constructor
  · rintro ⟨h1, h2⟩; cases a; cases b; simp_all
  · rintro rfl; simp

def emptyC (a : AttrV) : CellV := ⟨0, [], 0, a⟩
def zeroA : AttrV := ⟨0, 0, 0, 0, 0⟩
def zeroC : CellV := emptyC zeroA
/-- are they the two halves of one? -/
def pairB (a b : CellV) : Bool := decide (a.half = 1) && decide (a = { b with half := 1 })
def pairs (c d : CellV) : Bool := decide (c.half = 1) && decide (d.half = 2) && pairB c d
def nextPairs (c : CellV) : List CellV → Bool
  | [] => false
  | d :: _ => pairs c d
def mendL : List CellV → List CellV
  | [] => []
  | [c] => [if c.half = 0 ∨ c.half = 3 then c else emptyC c.at_]
  | c :: d :: l => if c.half = 0 then c :: mendL (d :: l) else if pairs c d then c :: d :: mendL l else emptyC c.at_ :: mendL (d :: l)
theorem mendL_length (l : List CellV) : (mendL l).length = l.length := by
  fun_induction mendL l <;> simp_all
def usedL (l : List CellV) : Nat := ((l.reverse.dropWhile (fun c => decide (c.r = 0))).length)
theorem usedL_le (l : List CellV) : usedL l ≤ l.length := by
  unfold usedL
  have := (List.dropWhile_sublist (fun c : CellV => decide (c.r = 0)) (l := l.reverse)).length_le
  simpa using this
def trimL (l : List CellV) : List CellV := l.take (usedL l)

theorem mendL_cons_mend : ∀ (l : List CellV), mendL (mendL l) = mendL l := by
  intro l
  fun_induction mendL l with
  | case1 => rfl
  | case2 c => 
    split
    · rename_i h; simp [mendL, h]
    · simp [mendL, emptyC]
  | case3 c d l h ih =>
    have hne : mendL (d :: l) ≠ [] := fun e => by have := mendL_length (d :: l); rw [e] at this; simp at this
    obtain ⟨x, xs, hx⟩ := List.exists_cons_of_ne_nil hne
    rw [hx] at ih ⊢
    simp only [mendL, h, if_true, ih]
  | case4 c d l h hp ih => simp [mendL, h, hp, ih]
  | case5 c d l h hp ih =>
    have hne : mendL (d :: l) ≠ [] := fun e => by have := mendL_length (d :: l); rw [e] at this; simp at this
    obtain ⟨x, xs, hx⟩ := List.exists_cons_of_ne_nil hne
    rw [hx] at ih ⊢
    simp only [mendL, emptyC, if_true, ih]
theorem usedL_snoc (l : List CellV) (c : CellV) : usedL (l ++ [c]) = if c.r = 0 then usedL l else l.length + 1 := by
  unfold usedL
  rw [List.reverse_append, List.reverse_singleton, List.singleton_append, List.dropWhile_cons]
  by_cases h : c.r = 0
  · simp [h]
  · simp [h]
end Go.Proofs.Ytmdmdlfdijdhgaa.Mq
