/- text: chapter 8 for this seat: Data, Cells, Cells2, Cells3, Flow1, Flow2 (printed by gen_flow.py) -/
import Derived.Test.YtjmmikdbhhomiaaTypes
import Derived.Test.YtjmmikdbhhomiaaCallA
import Derived.Test.YtjmmikdbhhomiaaOpn
import Derived.Test.YtjmmikdbhhomiaaDrawT
import Derived.Test.YtjmmikdbhhomiaaTwo
namespace Go.Proofs.Ytjmmikdbhhomiaa.Mq
open Go Go.RowKit Go.Proofs

structure AttrV where
  fk : Int
  fn : Int
  bk : Int
  bn : Int
  fl : Int
structure CellV where
  r : Int
  more : List UInt8
  half : Int
  at_ : AttrV
abbrev AttrV.enc (a : AttrV) : List Value := [.int .i64 a.fk, .int .i64 a.fn, .int .i64 a.bk, .int .i64 a.bn, .int .i64 a.fl]
abbrev CellV.enc (c : CellV) : List Value := [.int .i32 c.r, .string (bs c.more), .int .i64 c.half, .int .i64 c.at_.fk, .int .i64 c.at_.fn, .int .i64 c.at_.bk, .int .i64 c.at_.bn, .int .i64 c.at_.fl]
def ECell : Enc CellV := ⟨CellV.enc, 8, fun _ => rfl, fun _ => by repeat (first | exact Ones.nil | refine Ones.cons rfl ?_)⟩
structure RowV where
  A : Option Addr
  n : Nat
  c : Nat
  cont : Bool
abbrev RowV.enc (r : RowV) : List Value := [.slice r.A r.n r.c, .bool r.cont]
def ERow : Enc RowV := ⟨RowV.enc, 2, fun _ => rfl, fun _ => Ones.cons rfl (Ones.cons rfl Ones.nil)⟩
structure PosV where
  row : Int
  col : Int
  deriving DecidableEq
abbrev PosV.enc (p : PosV) : List Value := [.int .i64 p.row, .int .i64 p.col]
def EPos : Enc PosV := ⟨PosV.enc, 2, fun _ => rfl, fun _ => Ones.cons rfl (Ones.cons rfl Ones.nil)⟩
def EPair : Enc (Int × Int) := ⟨fun p => [.int .i64 p.1, .int .i64 p.2], 2, fun _ => rfl, fun _ => Ones.cons rfl (Ones.cons rfl Ones.nil)⟩
def EInt : Enc Int := ⟨fun p => [.int .i64 p], 1, fun _ => rfl, fun _ => Ones.cons rfl Ones.nil⟩

theorem AttrV.ext' {a b : AttrV} (h1 : a.fk = b.fk) (h2 : a.fn = b.fn) (h3 : a.bk = b.bk) (h4 : a.bn = b.bn) (h5 : a.fl = b.fl) : a = b := by
  cases a; cases b; simp_all
theorem CellV.ext' {a b : CellV} (h1 : a.r = b.r) (h2 : a.more = b.more) (h3 : a.half = b.half) (h4 : a.at_ = b.at_) : a = b := by
  cases a; cases b; simp_all
instance : DecidableEq AttrV := fun a b =>
  if h : a.fk = b.fk ∧ a.fn = b.fn ∧ a.bk = b.bk ∧ a.bn = b.bn ∧ a.fl = b.fl then isTrue (AttrV.ext' h.1 h.2.1 h.2.2.1 h.2.2.2.1 h.2.2.2.2)
  else isFalse fun e => h (by subst e; exact ⟨rfl, rfl, rfl, rfl, rfl⟩)
instance : DecidableEq CellV := fun a b =>
  if h : a.r = b.r ∧ a.more = b.more ∧ a.half = b.half ∧ a.at_ = b.at_ then isTrue (CellV.ext' h.1 h.2.1 h.2.2.1 h.2.2.2)
  else isFalse fun e => h (by subst e; exact ⟨rfl, rfl, rfl, rfl⟩)
theorem eqv_attr (a b : AttrV) : eqv a.enc b.enc = decide (a = b) := by
  rw [Bool.eq_iff_iff]
  simp only [eqv, veq, Bool.and_eq_true, decide_eq_true_eq, Bool.and_true]
  constructor
  · rintro ⟨h1, h2, h3, h4, h5⟩; exact AttrV.ext' h1 h2 h3 h4 h5
  · rintro rfl; simp
theorem eqv_cell (a b : CellV) : eqv a.enc b.enc = decide (a = b) := by
  rw [Bool.eq_iff_iff]
  simp only [eqv, veq, Bool.and_eq_true, decide_eq_true_eq, Bool.and_true, bs]
  constructor
  · rintro ⟨h1, h2, h3, h4, h5, h6, h7, h8⟩; exact CellV.ext' h1 (by simpa using h2) h3 (AttrV.ext' h4 h5 h6 h7 h8)
  · rintro rfl; simp
theorem eqv_pos (a b : PosV) : eqv a.enc b.enc = decide (a = b) := by
  rw [Bool.eq_iff_iff]
  simp only [eqv, veq, Bool.and_eq_true, decide_eq_true_eq, Bool.and_true]
  constructor
  · rintro ⟨h1, h2⟩; cases a; cases b; simp_all
  · rintro rfl; simp

def emptyC (a : AttrV) : CellV := ⟨0, [], 0, a⟩
def zeroA : AttrV := ⟨0, 0, 0, 0, 0⟩
def zeroC : CellV := emptyC zeroA
/-- are they the two halves of one? -/
def pairB (a b : CellV) : Bool := decide (a.half = 1) && decide (a = { b with half := 1 })
def pairs (c d : CellV) : Bool := decide (c.half = 1) && decide (d.half = 2) && pairB c d
def nextPairs (c : CellV) : List CellV → Bool
  | [] => false
  | d :: _ => pairs c d
def mendL : List CellV → List CellV
  | [] => []
  | [c] => [if c.half = 0 ∨ c.half = 3 then c else emptyC c.at_]
  | c :: d :: l => if c.half = 0 then c :: mendL (d :: l) else if pairs c d then c :: d :: mendL l else emptyC c.at_ :: mendL (d :: l)
theorem mendL_length (l : List CellV) : (mendL l).length = l.length := by
  fun_induction mendL l <;> simp_all
def usedL (l : List CellV) : Nat := ((l.reverse.dropWhile (fun c => decide (c.r = 0))).length)
theorem usedL_le (l : List CellV) : usedL l ≤ l.length := by
  unfold usedL
  have := (List.dropWhile_sublist (fun c : CellV => decide (c.r = 0)) (l := l.reverse)).length_le
  simpa using this
def trimL (l : List CellV) : List CellV := l.take (usedL l)

theorem mendL_cons_mend : ∀ (l : List CellV), mendL (mendL l) = mendL l := by
  intro l
  fun_induction mendL l with
  | case1 => rfl
  | case2 c => 
    split
    · rename_i h; simp [mendL, h]
    · simp [mendL, emptyC]
  | case3 c d l h ih =>
    have hne : mendL (d :: l) ≠ [] := fun e => by have := mendL_length (d :: l); rw [e] at this; simp at this
    obtain ⟨x, xs, hx⟩ := List.exists_cons_of_ne_nil hne
    rw [hx] at ih ⊢
    simp only [mendL, h, if_true, ih]
  | case4 c d l h hp ih => simp [mendL, h, hp, ih]
  | case5 c d l h hp ih =>
    have hne : mendL (d :: l) ≠ [] := fun e => by have := mendL_length (d :: l); rw [e] at this; simp at this
    obtain ⟨x, xs, hx⟩ := List.exists_cons_of_ne_nil hne
    rw [hx] at ih ⊢
    simp only [mendL, emptyC, if_true, ih]
theorem usedL_snoc (l : List CellV) (c : CellV) : usedL (l ++ [c]) = if c.r = 0 then usedL l else l.length + 1 := by
  unfold usedL
  rw [List.reverse_append, List.reverse_singleton, List.singleton_append, List.dropWhile_cons]
  by_cases h : c.r = 0
  · simp [h]
  · simp [h]
end Go.Proofs.Ytjmmikdbhhomiaa.Mq

namespace Go.Proofs.Ytjmmikdbhhomiaa.Mq
open Go Go.RowKit Go.Proofs

theorem empty_c (w : World) (a : AttrV) : Calls Try.prog 58 [.agg a.enc.toArray].toArray w (fun e w' => e = .returned (.agg (emptyC a).enc.toArray) ∧ Ext [] w w') := by
  refine calls (n := 5) Try.func58 rfl Try.ntmps58 rfl ?_
  refine CW.sub (H' := SH w [] []) ?_ (Sub.refl _) (fun x hx => SH.start' _ _ hx)
  refine CW.seq (CW.region ?_)
  refine RW.boxA rfl rfl (fun g1 hg1 hf1 => ?_)
  refine RW.allocA ag37 rfl (fun g2 hg2 hf2 => ?_)
  refine RW.nil (EX.seq (CW.seq (CW.region ?_)))
  refine RW.loadBA ag35 rfl rfl (by first | exact Has.head | exact Has.tail Has.head | exact Has.tail (Has.tail Has.head) | exact Has.tail (Has.tail (Has.tail Has.head)) | exact Has.tail (Has.tail (Has.tail (Has.tail Has.head))) | exact Has.tail (Has.tail (Has.tail (Has.tail (Has.tail Has.head)))) | exact Has.tail (Has.tail (Has.tail (Has.tail (Has.tail (Has.tail Has.head)))))) rfl rfl ?_
  refine RW.buildS bu37 rfl rfl rfl ?_
  refine RW.storeA ag37 rfl rfl (by first | exact Upd.head | exact Upd.tail Upd.head | exact Upd.tail (Upd.tail Upd.head) | exact Upd.tail (Upd.tail (Upd.tail Upd.head)) | exact Upd.tail (Upd.tail (Upd.tail (Upd.tail Upd.head))) | exact Upd.tail (Upd.tail (Upd.tail (Upd.tail (Upd.tail Upd.head)))) | exact Upd.tail (Upd.tail (Upd.tail (Upd.tail (Upd.tail (Upd.tail Upd.head)))))) (by first | rfl | exact Enc.len _ _) (by repeat (first | exact Ones.nil | exact Enc.ones _ _ | refine Ones.cons rfl ?_)) (by first | exact Nat.le_of_ble_eq_true rfl | (simp only [Enc.len]; decide)) ?_
  refine RW.nil (EX.seq (CW.ret ?_))
  refine EX.fin1' Try.results58 (RV.cellA ag37 rfl (by first | exact Has.head | exact Has.tail Has.head | exact Has.tail (Has.tail Has.head) | exact Has.tail (Has.tail (Has.tail Has.head)) | exact Has.tail (Has.tail (Has.tail (Has.tail Has.head))) | exact Has.tail (Has.tail (Has.tail (Has.tail (Has.tail Has.head)))) | exact Has.tail (Has.tail (Has.tail (Has.tail (Has.tail (Has.tail Has.head)))))) rfl rfl) (fun wz hw => ?_)
  -- mq: done
  exact ⟨rfl, hw.ext⟩
theorem pair_c (w : World) (a b : CellV) : Calls Try.prog 57 [.agg a.enc.toArray, .agg b.enc.toArray].toArray w (fun e w' => e = .returned (.bool (pairB a b)) ∧ Ext [] w w') := by
  refine calls (n := 14) Try.func57 rfl Try.ntmps57 rfl ?_
  refine CW.sub (H' := SH w [] []) ?_ (Sub.refl _) (fun x hx => SH.start' _ _ hx)
  refine CW.seq (CW.region ?_)
  refine RW.boxA rfl rfl (fun g2 hg2 hf2 => ?_)
  refine RW.boxA rfl rfl (fun g3 hg3 hf3 => ?_)
  refine RW.assign rfl rfl ?_
  refine RW.nil (EX.seq (CW.seq (CW.region ?_)))
  refine RW.fieldB fl37x2 rfl rfl ?_
  refine RW.store1 sc3 rfl rfl (by first | exact Upd.head | exact Upd.tail Upd.head | exact Upd.tail (Upd.tail Upd.head) | exact Upd.tail (Upd.tail (Upd.tail Upd.head)) | exact Upd.tail (Upd.tail (Upd.tail (Upd.tail Upd.head))) | exact Upd.tail (Upd.tail (Upd.tail (Upd.tail (Upd.tail Upd.head)))) | exact Upd.tail (Upd.tail (Upd.tail (Upd.tail (Upd.tail (Upd.tail Upd.head)))))) rfl (by first | exact Nat.le_of_ble_eq_true rfl | simp) ?_
  refine RW.nil (EX.seq (CW.seq (CW.region ?_)))
  refine RW.fieldB fl37x2 rfl rfl ?_
  refine RW.loadB1 sc3 rfl rfl (by first | exact Has.head | exact Has.tail Has.head | exact Has.tail (Has.tail Has.head) | exact Has.tail (Has.tail (Has.tail Has.head)) | exact Has.tail (Has.tail (Has.tail (Has.tail Has.head))) | exact Has.tail (Has.tail (Has.tail (Has.tail (Has.tail Has.head)))) | exact Has.tail (Has.tail (Has.tail (Has.tail (Has.tail (Has.tail Has.head)))))) rfl ?_
  refine RW.eqlI rfl rfl rfl ?_
  refine RW.move rfl rfl ?_
  -- mq: guard slot 9
  refine RW.casesB 9 rfl (fun h => ?_) (fun h => ?_)
  · skip
    have hp := of_decide_eq_true h
    refine RW.guardT rfl rfl h ?_
    refine RW.loadBA ag37 rfl rfl (by first | exact Has.head | exact Has.tail Has.head | exact Has.tail (Has.tail Has.head) | exact Has.tail (Has.tail (Has.tail Has.head)) | exact Has.tail (Has.tail (Has.tail (Has.tail Has.head))) | exact Has.tail (Has.tail (Has.tail (Has.tail (Has.tail Has.head)))) | exact Has.tail (Has.tail (Has.tail (Has.tail (Has.tail (Has.tail Has.head)))))) rfl rfl ?_
    refine RW.guardT rfl rfl h ?_
    refine RW.loadBA ag37 rfl rfl (by first | exact Has.head | exact Has.tail Has.head | exact Has.tail (Has.tail Has.head) | exact Has.tail (Has.tail (Has.tail Has.head)) | exact Has.tail (Has.tail (Has.tail (Has.tail Has.head))) | exact Has.tail (Has.tail (Has.tail (Has.tail (Has.tail Has.head)))) | exact Has.tail (Has.tail (Has.tail (Has.tail (Has.tail (Has.tail Has.head)))))) rfl rfl ?_
    refine RW.guardT rfl rfl h ?_
    refine RW.eqlSt eq37 rfl rfl rfl (by kernel_rfl) (eqv_cell a { b with half := 1 }) ?_
    refine RW.pickB rfl rfl h rfl ?_
    refine RW.assign rfl rfl ?_
    refine RW.nil (EX.seq (CW.ret ?_))
    refine EX.fin1 Try.results57 rfl (fun wz hw => ?_)
    -- mq: done
    exact ⟨by simp [pairB, hp], hw.ext⟩
  · skip
    have hp := of_decide_eq_false h
    refine RW.guardF rfl rfl rfl h ?_
    refine RW.guardF rfl rfl rfl h ?_
    refine RW.guardF rfl rfl rfl h ?_
    refine RW.pickC rfl rfl h rfl ?_
    refine RW.assign rfl rfl ?_
    refine RW.nil (EX.seq (CW.ret ?_))
    refine EX.fin1 Try.results57 rfl (fun wz hw => ?_)
    -- mq: done
    exact ⟨by simp [pairB, hp], hw.ext⟩

theorem mend_c (w : World) (v : Value) (row : List CellV) (hrow : w.ownsRow 0 37 8 v row.length (ECell.all row)) (hn : row.length ≤ 1000000) :
    Calls Try.prog 55 [v].toArray w (fun e w' => e = .returned (.tuple #[]) ∧ Ext v.ownBlock.toList w w' ∧ w'.ownsRow 0 37 8 v row.length (ECell.all (mendL row))) := by
  refine calls (n := 67) Try.func55 rfl Try.ntmps55 rfl ?_
  refine CW.sub (H' := SH w (own 37 8 v row.length (ECell.all row)).foot [own 37 8 v row.length (ECell.all row)]) ?_ (Sub.refl _) (fun x hx => SH.startOf' hx hrow (own_nodup _ _ _ _ _))
  refine CW.seq (CW.region ?_)
  refine RW.assign rfl rfl ?_
  refine RW.nil (EX.seq (CW.block ?_))
  -- mq: loop
  refine CW.loop (ι := List CellV × List CellV) (fun i => [(0, v), (2, .int .i64 (i.1.length : Int))]) (fun i => SH w (own 37 8 v row.length (ECell.all row)).foot [own 37 8 v row.length (ECell.all (i.1 ++ i.2))]) (fun i => mendL row = i.1 ++ mendL i.2 ∧ i.1.length + i.2.length = row.length) (fun i => i.2.length) ?_ ?_
  · exact fun w hw => ⟨([], row), ⟨rfl, by simp⟩, (by repeat (first | exact Sub.nil | refine Sub.cons (by rfl) ?_)), hw⟩
  · rintro ⟨pre, rest⟩ ⟨hm, hl⟩
    dsimp only at hm hl ⊢
    refine CW.formOwn (v := v) Has.head (fun A co hv hcap hmax hlen hg => ?_)
    subst hv
    refine CW.seq (CW.seq (CW.region ?_))
    refine RW.move rfl rfl ?_
    refine RW.move rfl rfl ?_
    refine RW.lenSl Try.underlying29 rfl rfl ?_
    refine RW.lss rfl rfl rfl ?_
    refine RW.nil (EX.seq ?_)
    -- mq: cond
    first | refine CW.condD rfl (fun hlt => ?_) (fun hlt => ?_) | refine CW.cond rfl (fun hlt => ?_) (fun hlt => ?_)
    · skip
      cases rest with
      | nil => simp at hl; omega
      | cons c rest =>
      obtain ⟨g, rfl⟩ := hg (by omega)
      have hk : (pre ++ c :: rest)[pre.length]? = some c := by simp
      refine CW.skip (EX.seq (CW.seq (CW.block (CW.seq (CW.region ?_)))))
      refine RW.move rfl rfl ?_
      refine RW.move rfl rfl ?_
      refine RW.ixAddr sl29 rfl rfl rfl (by first | rfl | assumption) (by rfl) (by omega) ?_
      refine RW.loadA ag37 rfl rfl (rfl) (fun w' hw' j u hj => hw'.own_at (E := ECell) Has.head hk j u hj) ?_
      refine RW.allocA ag37 rfl (fun g3 hg3 hf3 => ?_)
      refine RW.storeA ag37 rfl rfl (by first | exact Upd.head | exact Upd.tail Upd.head | exact Upd.tail (Upd.tail Upd.head) | exact Upd.tail (Upd.tail (Upd.tail Upd.head)) | exact Upd.tail (Upd.tail (Upd.tail (Upd.tail Upd.head))) | exact Upd.tail (Upd.tail (Upd.tail (Upd.tail (Upd.tail Upd.head)))) | exact Upd.tail (Upd.tail (Upd.tail (Upd.tail (Upd.tail (Upd.tail Upd.head)))))) (by first | rfl | exact Enc.len _ _) (by repeat (first | exact Ones.nil | exact Enc.ones _ _ | refine Ones.cons rfl ?_)) (by first | exact Nat.le_of_ble_eq_true rfl | (simp only [Enc.len]; decide)) ?_
      refine RW.nil (EX.seq (CW.block (CW.seq ?_)))
      -- mq: region
      have hlast : (((pre.length : Int) = (row.length : Int) - 1) ↔ rest = []) := by
        constructor
        · intro h; simp at hl; exact List.eq_nil_of_length_eq_zero (by omega)
        · intro h; subst h; simp at hl; omega
      refine CW.join ([(20, .bool (decide (c.half = 0) || (decide (c.half = 3) && decide ((pre.length : Int) = (row.length : Int) - 1)))), (0, .slice (some ⟨g, 0, none⟩) row.length co), (2, .int .i64 (pre.length : Int)), (3, .pointer (some ⟨g3, 0, none⟩))]) (SH w (own 37 8 (.slice (some ⟨g, 0, none⟩) row.length co) row.length (ECell.all row)).foot [blk g3 c.enc 37, own 37 8 (.slice (some ⟨g, 0, none⟩) row.length co) row.length (ECell.all (pre ++ c :: rest))]) ?_ ?_
      · skip
        refine CW.region ?_
        refine RW.fieldB fl37x2 rfl rfl ?_
        refine RW.loadB1 sc3 rfl rfl (by first | exact Has.head | exact Has.tail Has.head | exact Has.tail (Has.tail Has.head) | exact Has.tail (Has.tail (Has.tail Has.head)) | exact Has.tail (Has.tail (Has.tail (Has.tail Has.head))) | exact Has.tail (Has.tail (Has.tail (Has.tail (Has.tail Has.head)))) | exact Has.tail (Has.tail (Has.tail (Has.tail (Has.tail (Has.tail Has.head)))))) rfl ?_
        refine RW.eqlI rfl rfl rfl ?_
        refine RW.move rfl rfl ?_
        -- mq: guard slot 24
        refine RW.casesB 24 rfl (fun h1 => ?_) (fun h1 => ?_)
        · skip
          have h1p := of_decide_eq_true h1
          refine RW.guardF rfl rfl rfl h1 ?_
          refine RW.guardF rfl rfl rfl h1 ?_
          refine RW.guardF rfl rfl rfl h1 ?_
          refine RW.guardF rfl rfl rfl h1 ?_
          refine RW.guardU rfl rfl rfl ?_
          refine RW.guardU rfl rfl rfl ?_
          refine RW.guardU rfl rfl rfl ?_
          refine RW.guardU rfl rfl rfl ?_
          refine RW.guardU rfl rfl rfl ?_
          refine RW.guardF rfl rfl rfl h1 ?_
          refine RW.pickB rfl rfl h1 rfl ?_
          refine RW.assign rfl rfl ?_
          refine RW.nil ?_
          -- mq: joinend
          exact EX.jn (Sub.cons (congrArg (fun x => some (Value.bool x)) (by simp [h1p])) (by repeat (first | exact Sub.nil | refine Sub.cons (by rfl) ?_))) (fun _ h => h)
        · skip
          have h1p := of_decide_eq_false h1
          refine RW.guardT rfl rfl h1 ?_
          refine RW.fieldB fl37x2 rfl rfl ?_
          refine RW.guardT rfl rfl h1 ?_
          refine RW.loadB1 sc3 rfl rfl (by first | exact Has.head | exact Has.tail Has.head | exact Has.tail (Has.tail Has.head) | exact Has.tail (Has.tail (Has.tail Has.head)) | exact Has.tail (Has.tail (Has.tail (Has.tail Has.head))) | exact Has.tail (Has.tail (Has.tail (Has.tail (Has.tail Has.head)))) | exact Has.tail (Has.tail (Has.tail (Has.tail (Has.tail (Has.tail Has.head)))))) rfl ?_
          refine RW.guardT rfl rfl h1 ?_
          refine RW.eqlI rfl rfl rfl ?_
          refine RW.guardT rfl rfl h1 ?_
          refine RW.move rfl rfl ?_
          -- mq: guard slot 28
          refine RW.casesB 28 rfl (fun h2 => ?_) (fun h2 => ?_)
          · skip
            have h2p := of_decide_eq_true h2
            refine RW.guardT rfl rfl h2 ?_
            refine RW.move rfl rfl ?_
            refine RW.guardT rfl rfl h2 ?_
            refine RW.move rfl rfl ?_
            refine RW.guardT rfl rfl h2 ?_
            refine RW.lenSl Try.underlying29 rfl rfl ?_
            refine RW.guardT rfl rfl h2 ?_
            refine RW.sub_ rfl rfl rfl (wrap64 (by omega) (by omega)) ?_
            refine RW.guardT rfl rfl h2 ?_
            refine RW.eqlI rfl rfl rfl ?_
            refine RW.guardT rfl rfl h1 ?_
            refine RW.pickB rfl rfl h2 rfl ?_
            refine RW.pickC rfl rfl h1 rfl ?_
            refine RW.assign rfl rfl ?_
            refine RW.nil ?_
            -- mq: joinend
            exact EX.jn (Sub.cons (congrArg (fun x => some (Value.bool x)) (by simp [h1p, h2p])) (by repeat (first | exact Sub.nil | refine Sub.cons (by rfl) ?_))) (fun _ h => h)
          · skip
            have h2p := of_decide_eq_false h2
            refine RW.guardF rfl rfl rfl h2 ?_
            refine RW.guardF rfl rfl rfl h2 ?_
            refine RW.guardF rfl rfl rfl h2 ?_
            refine RW.guardF rfl rfl rfl h2 ?_
            refine RW.guardF rfl rfl rfl h2 ?_
            refine RW.guardT rfl rfl h1 ?_
            refine RW.pickC rfl rfl h2 rfl ?_
            refine RW.pickC rfl rfl h1 rfl ?_
            refine RW.assign rfl rfl ?_
            refine RW.nil ?_
            -- mq: joinend
            exact EX.jn (Sub.cons (congrArg (fun x => some (Value.bool x)) (by simp [h1p, h2p])) (by repeat (first | exact Sub.nil | refine Sub.cons (by rfl) ?_))) (fun _ h => h)
      · skip
        refine EX.seq ?_
        -- mq: cond
        first | refine CW.condD rfl (fun hB => ?_) (fun hB => ?_) | refine CW.cond rfl (fun hB => ?_) (fun hB => ?_)
        · skip
          refine CW.skip (EX.bkN (EX.bkN (EX.seq (CW.region ?_))))
          refine RW.move rfl rfl ?_
          refine RW.add rfl rfl rfl (wrap64 (by omega) (by omega)) ?_
          refine RW.assign rfl rfl ?_
          refine RW.nil ?_
          -- mq: loopend
          have hmc : mendL (c :: rest) = c :: mendL rest := by
            rw [Bool.or_eq_true, Bool.and_eq_true] at hB
            simp only [decide_eq_true_eq] at hB
            cases rest with
            | nil => rcases hB with h | ⟨h, _⟩ <;> simp [mendL, h]
            | cons d l =>
              rcases hB with h | ⟨h, h'⟩
              · simp [mendL, h]
              · exact absurd (hlast.1 h') (by simp)
          refine EX.lpN (pre ++ [c], rest) ⟨by rw [hm, hmc]; simp, by simp at hl ⊢; omega⟩ (by simp) (Sub.cons (by rfl) (Sub.cons (by simp [look]) Sub.nil)) (fun w' hw' => ?_)
          have := hw'.rem Rem.head
          simpa using this
        · skip
          rw [Bool.or_eq_false_iff] at hB
          have hh0 : c.half ≠ 0 := of_decide_eq_false hB.1
          refine CW.seq ?_
          -- mq: draw guard slot 40
          refine CW.join ([(36, .bool (nextPairs c rest)), (0, .slice (some ⟨g, 0, none⟩) row.length co), (2, .int .i64 (pre.length : Int)), (3, .pointer (some ⟨g3, 0, none⟩))]) (SH w (own 37 8 (.slice (some ⟨g, 0, none⟩) row.length co) row.length (ECell.all row)).foot [blk g3 c.enc 37, own 37 8 (.slice (some ⟨g, 0, none⟩) row.length co) row.length (ECell.all (pre ++ c :: rest))]) ?_ ?_
          · skip
            by_cases h1 : c.half = 1
            · cases rest with
              | nil =>
                have h2 : decide ((pre.length : Int) + 1 < (row.length : Int)) = false := decide_eq_false (by simp at hl; omega)
                refine CW.drawq mixed (by kernel_rfl) (fun _ hw => hw.drew) ?_
                refine DRq.cons rfl (RW.fieldB fl37x2 rfl rfl RW.jn) ?_
                refine DRq.cons rfl (RW.loadB1 sc3 rfl rfl (by first | exact Has.head | exact Has.tail Has.head | exact Has.tail (Has.tail Has.head) | exact Has.tail (Has.tail (Has.tail Has.head)) | exact Has.tail (Has.tail (Has.tail (Has.tail Has.head))) | exact Has.tail (Has.tail (Has.tail (Has.tail (Has.tail Has.head)))) | exact Has.tail (Has.tail (Has.tail (Has.tail (Has.tail (Has.tail Has.head)))))) rfl RW.jn) ?_
                refine DRq.cons rfl (RW.eqlI rfl rfl rfl RW.jn) ?_
                refine DRq.cons rfl (RW.move rfl rfl RW.jn) ?_
                refine DRq.cons rfl (RW.guardT rfl rfl (decide_eq_true h1) (RW.move rfl rfl RW.jn)) ?_
                refine DRq.cons rfl (RW.guardT rfl rfl (decide_eq_true h1) (RW.add rfl rfl rfl (wrap64 (by omega) (by omega)) RW.jn)) ?_
                refine DRq.cons rfl (RW.guardT rfl rfl (decide_eq_true h1) (RW.move rfl rfl RW.jn)) ?_
                refine DRq.cons rfl (RW.guardT rfl rfl (decide_eq_true h1) (RW.lenSl Try.underlying29 rfl rfl RW.jn)) ?_
                refine DRq.cons rfl (RW.guardT rfl rfl (decide_eq_true h1) (RW.lss rfl rfl rfl RW.jn)) ?_
                refine DRq.cons rfl (RW.pickB rfl rfl (decide_eq_true h1) rfl RW.jn) ?_
                refine DRq.cons rfl (RW.move rfl rfl RW.jn) ?_
                refine DRq.cons rfl (RW.guardF rfl rfl rfl h2 RW.jn) ?_
                refine DRq.cons rfl (RW.guardF rfl rfl rfl h2 RW.jn) ?_
                refine DRq.cons rfl (RW.guardF rfl rfl rfl h2 RW.jn) ?_
                refine DRq.cons rfl (RW.guardF rfl rfl rfl h2 RW.jn) ?_
                refine DRq.cons rfl (RW.guardF rfl rfl rfl h2 RW.jn) ?_
                refine DRq.cons rfl (RW.guardF rfl rfl rfl h2 RW.jn) ?_
                refine DRq.cons rfl (RW.guardF rfl rfl rfl h2 RW.jn) ?_
                refine DRq.cons rfl (RW.pickC rfl rfl h2 rfl RW.jn) ?_
                refine DRq.cons rfl (RW.move rfl rfl RW.jn) ?_
                refine DRq.cons rfl (RW.guardF rfl rfl rfl rfl RW.jn) ?_
                refine DRq.cons rfl (RW.guardF rfl rfl rfl rfl RW.jn) ?_
                refine DRq.cons rfl (RW.guardF rfl rfl rfl rfl RW.jn) ?_
                refine DRq.cons rfl (RW.guardF rfl rfl rfl rfl RW.jn) ?_
                refine DRq.cons rfl (RW.guardF rfl rfl rfl rfl RW.jn) ?_
                refine DRq.cons rfl (RW.guardF rfl rfl rfl rfl RW.jn) ?_
                refine DRq.cons rfl (RW.guardF rfl rfl rfl rfl RW.jn) ?_
                refine DRq.cons rfl (RW.pickC rfl rfl rfl rfl RW.jn) ?_
                refine DRq.cons rfl (RW.assign rfl rfl RW.jn) ?_
                refine DRq.nil ?_
                -- mq: joinend
                exact EX.jn (by repeat (first | exact Sub.nil | refine Sub.cons (by rfl) ?_)) (fun _ h => h)
              | cons d rest =>
                have h2 : decide ((pre.length : Int) + 1 < (row.length : Int)) = true := decide_eq_true (by simp at hl; omega)
                have hl2 : pre.length + 1 < row.length := by simp at hl; omega
                have hk1 : (pre ++ c :: d :: rest)[pre.length + 1]? = some d := by simp [List.getElem?_append_right]
                by_cases h3 : d.half = 2
                · skip
                  refine CW.drawq mixed (by kernel_rfl) (fun _ hw => hw.drew) ?_
                  refine DRq.cons rfl (RW.fieldB fl37x2 rfl rfl RW.jn) ?_
                  refine DRq.cons rfl (RW.loadB1 sc3 rfl rfl (by first | exact Has.head | exact Has.tail Has.head | exact Has.tail (Has.tail Has.head) | exact Has.tail (Has.tail (Has.tail Has.head)) | exact Has.tail (Has.tail (Has.tail (Has.tail Has.head))) | exact Has.tail (Has.tail (Has.tail (Has.tail (Has.tail Has.head)))) | exact Has.tail (Has.tail (Has.tail (Has.tail (Has.tail (Has.tail Has.head)))))) rfl RW.jn) ?_
                  refine DRq.cons rfl (RW.eqlI rfl rfl rfl RW.jn) ?_
                  refine DRq.cons rfl (RW.move rfl rfl RW.jn) ?_
                  refine DRq.cons rfl (RW.guardT rfl rfl (decide_eq_true h1) (RW.move rfl rfl RW.jn)) ?_
                  refine DRq.cons rfl (RW.guardT rfl rfl (decide_eq_true h1) (RW.add rfl rfl rfl (wrap64 (by omega) (by omega)) RW.jn)) ?_
                  refine DRq.cons rfl (RW.guardT rfl rfl (decide_eq_true h1) (RW.move rfl rfl RW.jn)) ?_
                  refine DRq.cons rfl (RW.guardT rfl rfl (decide_eq_true h1) (RW.lenSl Try.underlying29 rfl rfl RW.jn)) ?_
                  refine DRq.cons rfl (RW.guardT rfl rfl (decide_eq_true h1) (RW.lss rfl rfl rfl RW.jn)) ?_
                  refine DRq.cons rfl (RW.pickB rfl rfl (decide_eq_true h1) rfl RW.jn) ?_
                  refine DRq.cons rfl (RW.move rfl rfl RW.jn) ?_
                  refine DRq.cons rfl (RW.guardT rfl rfl h2 (RW.move rfl rfl RW.jn)) ?_
                  refine DRq.cons rfl (RW.guardT rfl rfl h2 (RW.move rfl rfl RW.jn)) ?_
                  refine DRq.cons rfl (RW.guardT rfl rfl h2 (RW.add rfl rfl rfl (wrap64 (by omega) (by omega)) RW.jn)) ?_
                  refine DRq.cons rfl (RW.guardT rfl rfl h2 (RW.ixAddr (q := pre.length + 1) sl29 rfl rfl rfl (by first | rfl | assumption) (by omega) (by omega) RW.jn)) ?_
                  refine DRq.cons rfl (RW.guardT rfl rfl h2 (RW.fieldP fl37x2 rfl rfl RW.jn)) ?_
                  refine DRq.cons rfl (RW.guardT rfl rfl h2 (RW.load1 sc3 rfl rfl (fun w' hw' => hw'.own_at (E := ECell) (by first | exact Has.head | exact Has.tail Has.head | exact Has.tail (Has.tail Has.head) | exact Has.tail (Has.tail (Has.tail Has.head)) | exact Has.tail (Has.tail (Has.tail (Has.tail Has.head))) | exact Has.tail (Has.tail (Has.tail (Has.tail (Has.tail Has.head)))) | exact Has.tail (Has.tail (Has.tail (Has.tail (Has.tail (Has.tail Has.head)))))) hk1 2 _ rfl) RW.jn)) ?_
                  refine DRq.cons rfl (RW.guardT rfl rfl h2 (RW.eqlI rfl rfl rfl RW.jn)) ?_
                  refine DRq.cons rfl (RW.pickB rfl rfl h2 rfl RW.jn) ?_
                  refine DRq.cons rfl (RW.move rfl rfl RW.jn) ?_
                  refine DRq.cons rfl (RW.guardT rfl rfl (decide_eq_true h3) (RW.loadBA ag37 rfl rfl (by first | exact Has.head | exact Has.tail Has.head | exact Has.tail (Has.tail Has.head) | exact Has.tail (Has.tail (Has.tail Has.head)) | exact Has.tail (Has.tail (Has.tail (Has.tail Has.head))) | exact Has.tail (Has.tail (Has.tail (Has.tail (Has.tail Has.head)))) | exact Has.tail (Has.tail (Has.tail (Has.tail (Has.tail (Has.tail Has.head)))))) rfl rfl RW.jn)) ?_
                  refine DRq.cons rfl (RW.guardT rfl rfl (decide_eq_true h3) (RW.move rfl rfl RW.jn)) ?_
                  refine DRq.cons rfl (RW.guardT rfl rfl (decide_eq_true h3) (RW.move rfl rfl RW.jn)) ?_
                  refine DRq.cons rfl (RW.guardT rfl rfl (decide_eq_true h3) (RW.add rfl rfl rfl (wrap64 (by omega) (by omega)) RW.jn)) ?_
                  refine DRq.cons rfl (RW.guardT rfl rfl (decide_eq_true h3) (RW.ixAddr (q := pre.length + 1) sl29 rfl rfl rfl (by first | rfl | assumption) (by omega) (by omega) RW.jn)) ?_
                  refine DRq.cons rfl (RW.guardT rfl rfl (decide_eq_true h3) (RW.loadA ag37 rfl rfl (rfl) (fun w' hw' j u hj => hw'.own_at (E := ECell) (by first | exact Has.head | exact Has.tail Has.head | exact Has.tail (Has.tail Has.head) | exact Has.tail (Has.tail (Has.tail Has.head)) | exact Has.tail (Has.tail (Has.tail (Has.tail Has.head))) | exact Has.tail (Has.tail (Has.tail (Has.tail (Has.tail Has.head)))) | exact Has.tail (Has.tail (Has.tail (Has.tail (Has.tail (Has.tail Has.head)))))) hk1 j u hj) RW.jn)) ?_
                  refine DRq.cons rfl (RW.guardT rfl rfl (decide_eq_true h3) (RW.call rfl ca57 rfl (fun w' _ => pair_c w' c d) RW.jn)) ?_
                  refine DRq.cons rfl (RW.pickB rfl rfl (decide_eq_true h3) rfl RW.jn) ?_
                  refine DRq.cons rfl (RW.assign rfl rfl RW.jn) ?_
                  refine DRq.nil ?_
                  -- mq: joinend
                  exact EX.jn (Sub.cons (congrArg (fun x => some (Value.bool x)) (by simp [nextPairs, pairs, h1, h3])) (by repeat (first | exact Sub.nil | refine Sub.cons (by rfl) ?_))) (fun _ h => h)
                · skip
                  refine CW.drawq mixed (by kernel_rfl) (fun _ hw => hw.drew) ?_
                  refine DRq.cons rfl (RW.fieldB fl37x2 rfl rfl RW.jn) ?_
                  refine DRq.cons rfl (RW.loadB1 sc3 rfl rfl (by first | exact Has.head | exact Has.tail Has.head | exact Has.tail (Has.tail Has.head) | exact Has.tail (Has.tail (Has.tail Has.head)) | exact Has.tail (Has.tail (Has.tail (Has.tail Has.head))) | exact Has.tail (Has.tail (Has.tail (Has.tail (Has.tail Has.head)))) | exact Has.tail (Has.tail (Has.tail (Has.tail (Has.tail (Has.tail Has.head)))))) rfl RW.jn) ?_
                  refine DRq.cons rfl (RW.eqlI rfl rfl rfl RW.jn) ?_
                  refine DRq.cons rfl (RW.move rfl rfl RW.jn) ?_
                  refine DRq.cons rfl (RW.guardT rfl rfl (decide_eq_true h1) (RW.move rfl rfl RW.jn)) ?_
                  refine DRq.cons rfl (RW.guardT rfl rfl (decide_eq_true h1) (RW.add rfl rfl rfl (wrap64 (by omega) (by omega)) RW.jn)) ?_
                  refine DRq.cons rfl (RW.guardT rfl rfl (decide_eq_true h1) (RW.move rfl rfl RW.jn)) ?_
                  refine DRq.cons rfl (RW.guardT rfl rfl (decide_eq_true h1) (RW.lenSl Try.underlying29 rfl rfl RW.jn)) ?_
                  refine DRq.cons rfl (RW.guardT rfl rfl (decide_eq_true h1) (RW.lss rfl rfl rfl RW.jn)) ?_
                  refine DRq.cons rfl (RW.pickB rfl rfl (decide_eq_true h1) rfl RW.jn) ?_
                  refine DRq.cons rfl (RW.move rfl rfl RW.jn) ?_
                  refine DRq.cons rfl (RW.guardT rfl rfl h2 (RW.move rfl rfl RW.jn)) ?_
                  refine DRq.cons rfl (RW.guardT rfl rfl h2 (RW.move rfl rfl RW.jn)) ?_
                  refine DRq.cons rfl (RW.guardT rfl rfl h2 (RW.add rfl rfl rfl (wrap64 (by omega) (by omega)) RW.jn)) ?_
                  refine DRq.cons rfl (RW.guardT rfl rfl h2 (RW.ixAddr (q := pre.length + 1) sl29 rfl rfl rfl (by first | rfl | assumption) (by omega) (by omega) RW.jn)) ?_
                  refine DRq.cons rfl (RW.guardT rfl rfl h2 (RW.fieldP fl37x2 rfl rfl RW.jn)) ?_
                  refine DRq.cons rfl (RW.guardT rfl rfl h2 (RW.load1 sc3 rfl rfl (fun w' hw' => hw'.own_at (E := ECell) (by first | exact Has.head | exact Has.tail Has.head | exact Has.tail (Has.tail Has.head) | exact Has.tail (Has.tail (Has.tail Has.head)) | exact Has.tail (Has.tail (Has.tail (Has.tail Has.head))) | exact Has.tail (Has.tail (Has.tail (Has.tail (Has.tail Has.head)))) | exact Has.tail (Has.tail (Has.tail (Has.tail (Has.tail (Has.tail Has.head)))))) hk1 2 _ rfl) RW.jn)) ?_
                  refine DRq.cons rfl (RW.guardT rfl rfl h2 (RW.eqlI rfl rfl rfl RW.jn)) ?_
                  refine DRq.cons rfl (RW.pickB rfl rfl h2 rfl RW.jn) ?_
                  refine DRq.cons rfl (RW.move rfl rfl RW.jn) ?_
                  refine DRq.cons rfl (RW.guardF rfl rfl rfl (decide_eq_false h3) RW.jn) ?_
                  refine DRq.cons rfl (RW.guardF rfl rfl rfl (decide_eq_false h3) RW.jn) ?_
                  refine DRq.cons rfl (RW.guardF rfl rfl rfl (decide_eq_false h3) RW.jn) ?_
                  refine DRq.cons rfl (RW.guardF rfl rfl rfl (decide_eq_false h3) RW.jn) ?_
                  refine DRq.cons rfl (RW.guardF rfl rfl rfl (decide_eq_false h3) RW.jn) ?_
                  refine DRq.cons rfl (RW.guardF rfl rfl rfl (decide_eq_false h3) RW.jn) ?_
                  refine DRq.cons rfl (RW.guardF rfl rfl rfl (decide_eq_false h3) RW.jn) ?_
                  refine DRq.cons rfl (RW.pickC rfl rfl (decide_eq_false h3) rfl RW.jn) ?_
                  refine DRq.cons rfl (RW.assign rfl rfl RW.jn) ?_
                  refine DRq.nil ?_
                  -- mq: joinend
                  exact EX.jn (Sub.cons (congrArg (fun x => some (Value.bool x)) (by simp [nextPairs, pairs, h3])) (by repeat (first | exact Sub.nil | refine Sub.cons (by rfl) ?_))) (fun _ h => h)
            · skip
              refine CW.drawq mixed (by kernel_rfl) (fun _ hw => hw.drew) ?_
              refine DRq.cons rfl (RW.fieldB fl37x2 rfl rfl RW.jn) ?_
              refine DRq.cons rfl (RW.loadB1 sc3 rfl rfl (by first | exact Has.head | exact Has.tail Has.head | exact Has.tail (Has.tail Has.head) | exact Has.tail (Has.tail (Has.tail Has.head)) | exact Has.tail (Has.tail (Has.tail (Has.tail Has.head))) | exact Has.tail (Has.tail (Has.tail (Has.tail (Has.tail Has.head)))) | exact Has.tail (Has.tail (Has.tail (Has.tail (Has.tail (Has.tail Has.head)))))) rfl RW.jn) ?_
              refine DRq.cons rfl (RW.eqlI rfl rfl rfl RW.jn) ?_
              refine DRq.cons rfl (RW.move rfl rfl RW.jn) ?_
              refine DRq.cons rfl (RW.guardF rfl rfl rfl (decide_eq_false h1) RW.jn) ?_
              refine DRq.cons rfl (RW.guardF rfl rfl rfl (decide_eq_false h1) RW.jn) ?_
              refine DRq.cons rfl (RW.guardF rfl rfl rfl (decide_eq_false h1) RW.jn) ?_
              refine DRq.cons rfl (RW.guardF rfl rfl rfl (decide_eq_false h1) RW.jn) ?_
              refine DRq.cons rfl (RW.guardF rfl rfl rfl (decide_eq_false h1) RW.jn) ?_
              refine DRq.cons rfl (RW.pickC rfl rfl (decide_eq_false h1) rfl RW.jn) ?_
              refine DRq.cons rfl (RW.move rfl rfl RW.jn) ?_
              refine DRq.cons rfl (RW.guardF rfl rfl rfl rfl RW.jn) ?_
              refine DRq.cons rfl (RW.guardF rfl rfl rfl rfl RW.jn) ?_
              refine DRq.cons rfl (RW.guardF rfl rfl rfl rfl RW.jn) ?_
              refine DRq.cons rfl (RW.guardF rfl rfl rfl rfl RW.jn) ?_
              refine DRq.cons rfl (RW.guardF rfl rfl rfl rfl RW.jn) ?_
              refine DRq.cons rfl (RW.guardF rfl rfl rfl rfl RW.jn) ?_
              refine DRq.cons rfl (RW.guardF rfl rfl rfl rfl RW.jn) ?_
              refine DRq.cons rfl (RW.pickC rfl rfl rfl rfl RW.jn) ?_
              refine DRq.cons rfl (RW.move rfl rfl RW.jn) ?_
              refine DRq.cons rfl (RW.guardF rfl rfl rfl rfl RW.jn) ?_
              refine DRq.cons rfl (RW.guardF rfl rfl rfl rfl RW.jn) ?_
              refine DRq.cons rfl (RW.guardF rfl rfl rfl rfl RW.jn) ?_
              refine DRq.cons rfl (RW.guardF rfl rfl rfl rfl RW.jn) ?_
              refine DRq.cons rfl (RW.guardF rfl rfl rfl rfl RW.jn) ?_
              refine DRq.cons rfl (RW.guardF rfl rfl rfl rfl RW.jn) ?_
              refine DRq.cons rfl (RW.guardF rfl rfl rfl rfl RW.jn) ?_
              refine DRq.cons rfl (RW.pickC rfl rfl rfl rfl RW.jn) ?_
              refine DRq.cons rfl (RW.assign rfl rfl RW.jn) ?_
              refine DRq.nil ?_
              -- mq: joinend
              exact EX.jn (Sub.cons (congrArg (fun x => some (Value.bool x)) (by cases rest <;> simp [nextPairs, pairs, h1])) (by repeat (first | exact Sub.nil | refine Sub.cons (by rfl) ?_))) (fun _ h => h)
          · skip
            refine EX.seq ?_
            -- mq: cond
            first | refine CW.condD rfl (fun hP => ?_) (fun hP => ?_) | refine CW.cond rfl (fun hP => ?_) (fun hP => ?_)
            · skip
              cases rest with
              | nil => cases hP
              | cons d rest =>
                refine CW.region ?_
                refine RW.move rfl rfl ?_
                refine RW.add rfl rfl rfl (wrap64 (by omega) (by omega)) ?_
                refine RW.assign rfl rfl ?_
                refine RW.nil (EX.bkN (EX.bkN (EX.seq (CW.region ?_))))
                refine RW.move rfl rfl ?_
                refine RW.add rfl rfl rfl (wrap64 (by omega) (by omega)) ?_
                refine RW.assign rfl rfl ?_
                refine RW.nil ?_
                -- mq: loopend
                have hmc : mendL (c :: d :: rest) = c :: d :: mendL rest := by
                  simp only [mendL, if_neg hh0]
                  rw [if_pos (show pairs c d = true from hP)]
                refine EX.lpN (pre ++ [c, d], rest) ⟨by rw [hm, hmc]; simp, by simp at hl ⊢; omega⟩ (by simp; omega) (Sub.cons (by rfl) (Sub.cons (by simp [look]; omega) Sub.nil)) (fun w' hw' => ?_)
                have := hw'.rem Rem.head
                simpa using this
            · skip
              refine CW.region ?_
              refine RW.move rfl rfl ?_
              refine RW.move rfl rfl ?_
              refine RW.fieldB fl37x3 rfl rfl ?_
              refine RW.loadBA ag35 rfl rfl (by first | exact Has.head | exact Has.tail Has.head | exact Has.tail (Has.tail Has.head) | exact Has.tail (Has.tail (Has.tail Has.head)) | exact Has.tail (Has.tail (Has.tail (Has.tail Has.head))) | exact Has.tail (Has.tail (Has.tail (Has.tail (Has.tail Has.head)))) | exact Has.tail (Has.tail (Has.tail (Has.tail (Has.tail (Has.tail Has.head)))))) rfl rfl ?_
              refine RW.call rfl ca58 rfl (fun w' _ => empty_c w' c.at_) ?_
              refine RW.ixAddr sl29 rfl rfl rfl (by first | rfl | assumption) (by rfl) (by omega) ?_
              refine RW.storeOwnA (o := pre.length * 8) ag37 rfl rfl (by first | exact Upd.head | exact Upd.tail Upd.head | exact Upd.tail (Upd.tail Upd.head) | exact Upd.tail (Upd.tail (Upd.tail Upd.head)) | exact Upd.tail (Upd.tail (Upd.tail (Upd.tail Upd.head))) | exact Upd.tail (Upd.tail (Upd.tail (Upd.tail (Upd.tail Upd.head)))) | exact Upd.tail (Upd.tail (Upd.tail (Upd.tail (Upd.tail (Upd.tail Upd.head)))))) (by simp [Addr.add_lit]) rfl (ECell.ones (emptyC c.at_)) (by rw [ECell.all_length]; show pre.length * 8 + 8 ≤ _ * 8; simp; omega) ?_
              refine RW.nil (EX.bkN (EX.bkN (EX.seq (CW.region ?_))))
              refine RW.move rfl rfl ?_
              refine RW.add rfl rfl rfl (wrap64 (by omega) (by omega)) ?_
              refine RW.assign rfl rfl ?_
              refine RW.nil ?_
              -- mq: loopend
              have hmc : mendL (c :: rest) = emptyC c.at_ :: mendL rest := by
                cases rest with
                | nil =>
                  have h3 : c.half ≠ 3 := fun h => by
                    have := hB.2
                    rw [Bool.and_eq_false_iff] at this
                    rcases this with h' | h'
                    · exact of_decide_eq_false h' h
                    · exact of_decide_eq_false h' (hlast.2 rfl)
                  simp [mendL, hh0, h3]
                | cons d l =>
                  simp only [nextPairs] at hP
                  simp [mendL, hh0, hP]
              refine EX.lpN (pre ++ [emptyC c.at_], rest) ⟨by rw [hm, hmc]; simp, by simp at hl ⊢; omega⟩ (by simp) (Sub.cons (by rfl) (Sub.cons (by simp [look]) Sub.nil)) (fun w' hw' => ?_)
              have := hw'.rem Rem.head
              have hs := ECell.splice_all (L := pre ++ c :: rest) (i := pre.length) (emptyC c.at_) (by simp)
              have hset : (pre ++ c :: rest).set pre.length (emptyC c.at_) = (pre ++ [emptyC c.at_]) ++ rest := by simp
              rw [hset] at hs
              rw [← hs]
              exact this
    · skip
      refine CW.exit (EX.seqE (EX.lpE (EX.bkE ?_)))
      refine EX.fin0N Try.results55 (fun wz hw => ?_)
      -- mq: done
      have hr : rest = [] := List.eq_nil_of_length_eq_zero (by omega)
      subst hr
      have hpre : mendL row = pre ++ [] := hm
      exact ⟨rfl, hw.ext, by rw [hpre]; exact hw.has Has.head⟩
end Go.Proofs.Ytjmmikdbhhomiaa.Mq

namespace Go.Proofs.Ytjmmikdbhhomiaa.Mq
open Go Go.RowKit Go.Proofs

theorem mendNop_c (w : World) (v : Value) : Calls Try.prog 45 [v].toArray w (fun e w' => e = .returned (.tuple #[]) ∧ Ext [] w w') := by
  refine calls (n := 2) Try.func45 rfl Try.ntmps45 rfl ?_
  refine CW.sub (H' := SH w [] []) ?_ (Sub.refl _) (fun x hx => SH.start' _ _ hx)
  refine CW.skip ?_
  refine EX.fin0N Try.results45 (fun wz hw => ?_)
  -- mq: done
  exact ⟨rfl, hw.ext⟩
theorem with_c (w : World) (F : Nat → Prop) (A : Option Addr) (n c : Nat) (row : List CellV) (hr : Rd ECell w F A n c row) (hn : n ≤ 1000000) :
    Calls Try.prog 44 [.slice A n c, .func (.func 45) #[] #[]].toArray w (RetSl ECell w (mendL row)) := by
  have hl := hr.len
  refine calls (n := 16) Try.func44 rfl Try.ntmps44 rfl ?_
  refine CW.sub (H' := SH w [] []) ?_ (Sub.refl _) (fun x hx => SH.start' _ _ hx)
  refine CW.ownNil 37 8 ?_
  refine CW.seq (CW.region ?_)
  refine RW.assign rfl rfl ?_
  refine RW.nil (EX.seq (CW.seq (CW.region ?_)))
  refine RW.move rfl rfl ?_
  refine RW.appendSl (E := ECell) sl29 rfl rfl rfl (fun _ => by first | exact Upd.head | exact Upd.tail Upd.head | exact Upd.tail (Upd.tail Upd.head) | exact Upd.tail (Upd.tail (Upd.tail Upd.head)) | exact Upd.tail (Upd.tail (Upd.tail (Upd.tail Upd.head))) | exact Upd.tail (Upd.tail (Upd.tail (Upd.tail (Upd.tail Upd.head)))) | exact Upd.tail (Upd.tail (Upd.tail (Upd.tail (Upd.tail (Upd.tail Upd.head)))))) (fun w' hw' => hr.ext hw'.ext (by simp)) (by simp only [maxLen]; omega) (by omega) (fun v7 hv7 => ?_)
  refine RW.assign rfl rfl ?_
  refine RW.nil (EX.seq (CW.seq (CW.region ?_)))
  refine RW.move rfl rfl ?_
  -- mq: op 1: ('Op.call', ('Call.mk', ('Callee.value', ('Operand.func', '55')), ('arr', ('Operand.tmp', '8')), ('arr', '29'))) -> slot 9 ("cells.go:50")
  refine RW.callU (v := .tuple #[]) (c' := own 37 8 v7 (0 + n) (ECell.all (mendL row))) rfl ca55 rfl (by first | exact Upd.head | exact Upd.tail Upd.head | exact Upd.tail (Upd.tail Upd.head) | exact Upd.tail (Upd.tail (Upd.tail Upd.head)) | exact Upd.tail (Upd.tail (Upd.tail (Upd.tail Upd.head))) | exact Upd.tail (Upd.tail (Upd.tail (Upd.tail (Upd.tail Upd.head)))) | exact Upd.tail (Upd.tail (Upd.tail (Upd.tail (Upd.tail (Upd.tail Upd.head)))))) (by rfl) (fun w' hw' => (mend_c w' v7 row (by have := hw'.has Has.head; rw [Nat.zero_add] at this; rw [hl]; exact this) (by omega)).mono ?_) ?_
  · rintro e w1 ⟨h1, h2, h3⟩
    exact ⟨h1, h2, by rw [Nat.zero_add]; rw [hl] at h3; exact h3⟩
  refine RW.nil (EX.seq (CW.seq (CW.region ?_)))
  refine RW.move rfl rfl ?_
  refine RW.move rfl rfl ?_
  -- mq: op 2: ('Op.call', ('Call.mk', ('Callee.value', ('Operand.tmp', '10')), ('arr', ('Operand.tmp', '11')), ('arr', '29'))) -> slot 12 ("cells.go:51")
  refine RW.callV rfl rfl ca45 rfl (fun w' _ => mendNop_c w' _) ?_
  refine RW.nil (EX.seq (CW.seq (CW.region ?_)))
  refine RW.move rfl rfl ?_
  -- mq: op 1: ('Op.call', ('Call.mk', ('Callee.value', ('Operand.func', '55')), ('arr', ('Operand.tmp', '13')), ('arr', '29'))) -> slot 14 ("cells.go:52")
  refine RW.callU (v := .tuple #[]) (c' := own 37 8 v7 (0 + n) (ECell.all (mendL row))) rfl ca55 rfl (by first | exact Upd.head | exact Upd.tail Upd.head | exact Upd.tail (Upd.tail Upd.head) | exact Upd.tail (Upd.tail (Upd.tail Upd.head)) | exact Upd.tail (Upd.tail (Upd.tail (Upd.tail Upd.head))) | exact Upd.tail (Upd.tail (Upd.tail (Upd.tail (Upd.tail Upd.head)))) | exact Upd.tail (Upd.tail (Upd.tail (Upd.tail (Upd.tail (Upd.tail Upd.head)))))) (by rfl) (fun w' hw' => (mend_c w' v7 (mendL row) (by have := hw'.has Has.head; rw [Nat.zero_add] at this; rw [mendL_length, hl]; exact this) (by rw [mendL_length]; omega)).mono ?_) ?_
  · rintro e w1 ⟨h1, h2, h3⟩
    exact ⟨h1, h2, by rw [Nat.zero_add]; rw [mendL_length, hl, mendL_cons_mend] at h3; exact h3⟩
  refine RW.nil (EX.seq (CW.seq (CW.region ?_)))
  refine RW.move rfl rfl ?_
  refine RW.assign rfl rfl ?_
  refine RW.nil (EX.seq (CW.ret ?_))
  refine EX.fin1 Try.results44 rfl (fun wz hw => ?_)
  -- mq: done
  exact RetSl.of_own hw.ext (hw.has Has.head) (by rw [mendL_length, hl, Nat.zero_add]) (fun g hg => by
    rcases hv7 g hg with h | h
    · simp [Value.ownBlock] at h
    · exact h.1)
theorem Mend_c (w : World) (F : Nat → Prop) (A : Option Addr) (n c : Nat) (row : List CellV) (hr : Rd ECell w F A n c row) (hn : n ≤ 1000000) :
    Calls Try.prog 33 [.slice A n c].toArray w (RetSl ECell w (mendL row)) := by
  refine calls (n := 5) Try.func33 rfl Try.ntmps33 rfl ?_
  refine CW.sub (H' := SH w [] []) ?_ (Sub.refl _) (fun x hx => SH.start' _ _ hx)
  refine CW.seq (CW.region ?_)
  refine RW.assign rfl rfl ?_
  refine RW.nil (EX.seq (CW.seq (CW.region ?_)))
  refine RW.move rfl rfl ?_
  -- mq: op 1: ('Op.call', ('Call.mk', ('Callee.value', ('Operand.func', '44')), ('arr', ('Operand.tmp', '3'), ('Operand.func', '45')), ('arr', '29', '88'))) -> slot 4 ("cells.go:57")
  refine RW.callN (fun w0 v w1 => RetSl ECell w0 (mendL row) (.returned v) w1) rfl ca44 rfl (fun w' hw' => (with_c w' F A n c row (hr.ext hw'.ext (by simp)) hn).mono ?_) ?_
  · rintro e w1 ⟨A1, n1, c1, rfl, h2, h3⟩
    exact ⟨_, rfl, h2, A1, n1, c1, rfl, h2, h3⟩
  rintro w0 v w1 hw0 he1 ⟨A1, n1, c1, hv, _, h3⟩ hext _
  cases hv
  refine RW.assign rfl rfl ?_
  refine RW.nil (EX.seq (CW.ret ?_))
  refine EX.fin1 Try.results33 rfl (fun wz hw => ?_)
  -- mq: done
  exact ⟨A1, n1, c1, rfl, hext.trans0 hw.ext, (h3.ext0 hw.ext).weak (fun k hk => Nat.le_trans hw0.ext.size hk)⟩
end Go.Proofs.Ytjmmikdbhhomiaa.Mq

namespace Go.Proofs.Ytjmmikdbhhomiaa.Mq
open Go Go.RowKit Go.Proofs

theorem Used_c (w : World) (F : Nat → Prop) (A : Option Addr) (n c : Nat) (row : List CellV) (hr : Rd ECell w F A n c row) (hn : n ≤ 1000000) :
    Calls Try.prog 34 [.slice A n c].toArray w (fun e w' => e = .returned (.int .i64 (usedL row : Int)) ∧ Ext [] w w') := by
  have hl := hr.len
  refine calls (n := 20) Try.func34 rfl Try.ntmps34 rfl ?_
  refine CW.sub (H' := SH w [] []) ?_ (Sub.refl _) (fun x hx => SH.start' _ _ hx)
  refine CW.seq (CW.region ?_)
  refine RW.assign rfl rfl ?_
  refine RW.nil (EX.seq (CW.seq (CW.region ?_)))
  refine RW.move rfl rfl ?_
  refine RW.lenSl Try.underlying29 rfl rfl ?_
  refine RW.assign rfl rfl ?_
  refine RW.nil (EX.seq (CW.seq (CW.block ?_)))
  -- mq: loop
  refine CW.loop (ι := Nat) (fun k => [(0, .slice A n c), (3, .int .i64 (k : Int))]) (fun _ => SH w [] []) (fun k => k ≤ n ∧ usedL row = usedL (row.take k)) (fun k => k) ?_ ?_
  · exact fun w hw => ⟨n, ⟨Nat.le_refl _, by rw [← hl, List.take_length]⟩, (by repeat (first | exact Sub.nil | refine Sub.cons (by rfl) ?_)), hw⟩
  · rintro k ⟨hk, hu⟩
    refine CW.seq (CW.seq (CW.region ?_))
    refine RW.move rfl rfl ?_
    refine RW.gtr rfl rfl rfl ?_
    refine RW.move rfl rfl ?_
    -- mq: guard slot 8
    refine RW.casesB 8 rfl (fun h1 => ?_) (fun h1 => ?_)
    · skip
      have h1p := of_decide_eq_true h1
      obtain ⟨x, hx⟩ : ∃ x, row[k - 1]? = some x := ⟨row[k - 1]'(by omega), List.getElem?_eq_getElem _⟩
      obtain ⟨ad, hA, _, hcell⟩ := hr.at_ hx
      have hsn : usedL (row.take k) = if x.r = 0 then usedL (row.take (k - 1)) else k := by
        have e : row.take k = row.take (k - 1) ++ [x] := by
          rw [show k = k - 1 + 1 by omega, List.take_add_one, hx]; rfl
        rw [e, usedL_snoc, List.length_take, Nat.min_eq_left (by omega), show k - 1 + 1 = k by omega]
      refine RW.guardT rfl rfl h1 ?_
      refine RW.move rfl rfl ?_
      refine RW.guardT rfl rfl h1 ?_
      refine RW.move rfl rfl ?_
      refine RW.guardT rfl rfl h1 ?_
      refine RW.sub_ rfl rfl rfl (wrap64 (by omega) (by omega)) ?_
      refine RW.guardT rfl rfl h1 ?_
      refine RW.ixAddr (q := k - 1) sl29 rfl rfl rfl (by first | rfl | assumption) (by omega) (by omega) ?_
      refine RW.guardT rfl rfl h1 ?_
      refine RW.fieldP fl37x0 rfl rfl ?_
      refine RW.guardT rfl rfl h1 ?_
      refine RW.load1 sc21 rfl rfl (fun w' hw' => hw'.base_cell (hcell 0 _ rfl) (by simp)) ?_
      refine RW.guardT rfl rfl h1 ?_
      refine RW.eqlI rfl rfl rfl ?_
      refine RW.pickB rfl rfl h1 rfl ?_
      refine RW.nil (EX.seq ?_)
      -- mq: cond
      first | refine CW.condD rfl (fun hz => ?_) (fun hz => ?_) | refine CW.cond rfl (fun hz => ?_) (fun hz => ?_)
      · skip
        refine CW.skip (EX.seq (CW.block (CW.region ?_)))
        refine RW.move rfl rfl ?_
        refine RW.sub_ rfl rfl rfl (wrap64 (by omega) (by omega)) ?_
        refine RW.assign rfl rfl ?_
        refine RW.nil (EX.bkN ?_)
        -- mq: loopend
        refine EX.lpN (k - 1) ⟨by omega, by rw [hu, hsn, if_pos hz]⟩ (by omega) (Sub.cons (by rfl) (Sub.cons (by simp [look]; omega) Sub.nil)) (fun w' hw' => hw')
      · skip
        refine CW.exit (EX.seqE (EX.lpE (EX.bkE (EX.seq (CW.seq (CW.region ?_))))))
        refine RW.move rfl rfl ?_
        refine RW.assign rfl rfl ?_
        refine RW.nil (EX.seq (CW.ret ?_))
        refine EX.fin1 Try.results34 rfl (fun wz hw => ?_)
        -- mq: done
        exact ⟨by rw [hu, hsn, if_neg hz], hw.ext⟩
    · skip
      have h1p := of_decide_eq_false h1
      refine RW.guardF rfl rfl rfl h1 ?_
      refine RW.guardF rfl rfl rfl h1 ?_
      refine RW.guardF rfl rfl rfl h1 ?_
      refine RW.guardF rfl rfl rfl h1 ?_
      refine RW.guardF rfl rfl rfl h1 ?_
      refine RW.guardF rfl rfl rfl h1 ?_
      refine RW.guardF rfl rfl rfl h1 ?_
      refine RW.pickC rfl rfl h1 rfl ?_
      refine RW.nil (EX.seq ?_)
      -- mq: cond
      refine CW.condF rfl (rfl) ?_
      refine CW.exit (EX.seqE (EX.lpE (EX.bkE (EX.seq (CW.seq (CW.region ?_))))))
      refine RW.move rfl rfl ?_
      refine RW.assign rfl rfl ?_
      refine RW.nil (EX.seq (CW.ret ?_))
      refine EX.fin1 Try.results34 rfl (fun wz hw => ?_)
      -- mq: done
      have hk0 : k = 0 := by omega
      subst hk0
      exact ⟨by rw [hu]; rfl, hw.ext⟩
theorem refSame_c (w : World) (F G : Nat → Prop) (A B : Option Addr) (n c m d : Nat) (x y : List CellV) (hx : Rd ECell w F A n c x) (hy : Rd ECell w G B m d y) (hn : n ≤ 1000000) :
    Calls Try.prog 11 [.slice A n c, .slice B m d].toArray w (fun e w' => e = .returned (.bool (decide (x = y))) ∧ Ext [] w w') := by
  have hlx := hx.len
  have hly := hy.len
  refine calls (n := 26) Try.func11 rfl Try.ntmps11 rfl ?_
  refine CW.sub (H' := SH w [] []) ?_ (Sub.refl _) (fun x hx => SH.start' _ _ hx)
  refine CW.seq (CW.region ?_)
  refine RW.assign rfl rfl ?_
  refine RW.nil (EX.seq (CW.seq (CW.seq (CW.region ?_))))
  refine RW.move rfl rfl ?_
  refine RW.lenSl Try.underlying29 rfl rfl ?_
  refine RW.move rfl rfl ?_
  refine RW.lenSl Try.underlying29 rfl rfl ?_
  refine RW.neqI rfl rfl rfl ?_
  refine RW.nil (EX.seq ?_)
  -- mq: cond
  first | refine CW.condD rfl (fun hne => ?_) (fun hne => ?_) | refine CW.cond rfl (fun hne => ?_) (fun hne => ?_)
  · skip
    refine CW.seq (CW.region ?_)
    refine RW.assign rfl rfl ?_
    refine RW.nil (EX.seq (CW.ret (EX.seqR ?_)))
    refine EX.fin1 Try.results11 rfl (fun wz hw => ?_)
    -- mq: done
    exact ⟨by rw [decide_eq_false (fun e => hne (by subst e; omega))], hw.ext⟩
  · skip
    refine CW.skip (EX.seq (CW.seq (CW.seq (CW.region ?_))))
    refine RW.assign rfl rfl ?_
    refine RW.nil (EX.seq (CW.block ?_))
    -- mq: loop
    refine CW.loop (ι := Nat) (fun k => [(0, .slice A n c), (1, .slice B m d), (5, .int .i64 (k : Int))]) (fun _ => SH w [] []) (fun k => k ≤ n ∧ x.take k = y.take k) (fun k => n - k) ?_ ?_
    · exact fun w hw => ⟨0, ⟨Nat.zero_le _, rfl⟩, (by repeat (first | exact Sub.nil | refine Sub.cons (by rfl) ?_)), hw⟩
    · rintro k ⟨hk, he⟩
      refine CW.seq (CW.seq (CW.region ?_))
      refine RW.move rfl rfl ?_
      refine RW.move rfl rfl ?_
      refine RW.lenSl Try.underlying29 rfl rfl ?_
      refine RW.lss rfl rfl rfl ?_
      refine RW.nil (EX.seq ?_)
      -- mq: cond
      first | refine CW.condD rfl (fun hlt => ?_) (fun hlt => ?_) | refine CW.cond rfl (fun hlt => ?_) (fun hlt => ?_)
      · skip
        obtain ⟨a, ha⟩ : ∃ a, x[k]? = some a := ⟨x[k]'(by omega), List.getElem?_eq_getElem _⟩
        obtain ⟨b, hb⟩ : ∃ b, y[k]? = some b := ⟨y[k]'(by omega), List.getElem?_eq_getElem _⟩
        obtain ⟨ad, hA, _, hca⟩ := hx.at_ ha
        obtain ⟨bd, hB, _, hcb⟩ := hy.at_ hb
        refine CW.skip (EX.seq (CW.seq (CW.block (CW.seq ?_))))
        refine CW.drawq mixed (by kernel_rfl) (fun _ hw => hw.drew) ?_
        refine DRq.cons rfl (RW.move rfl rfl RW.jn) ?_
        refine DRq.cons rfl (RW.move rfl rfl RW.jn) ?_
        refine DRq.cons rfl (RW.ixAddr sl29 rfl rfl rfl (by first | rfl | assumption) (by rfl) (by omega) RW.jn) ?_
        refine DRq.cons rfl (RW.loadA ag37 rfl rfl (rfl) (fun w' hw' j u hj => hw'.base_cell (hca j u hj) (by simp)) RW.jn) ?_
        refine DRq.cons rfl (RW.move rfl rfl RW.jn) ?_
        refine DRq.cons rfl (RW.move rfl rfl RW.jn) ?_
        refine DRq.cons rfl (RW.ixAddr sl29 rfl rfl rfl (by first | rfl | assumption) (by rfl) (by omega) RW.jn) ?_
        refine DRq.cons rfl (RW.loadA ag37 rfl rfl (rfl) (fun w' hw' j u hj => hw'.base_cell (hcb j u hj) (by simp)) RW.jn) ?_
        refine DRq.cons rfl (RW.neqSt eq37 rfl rfl rfl (by kernel_rfl) (eqv_cell a b) RW.jn) ?_
        refine DRq.nil (EX.seq ?_)
        -- mq: cond
        first | refine CW.condD rfl (fun hab => ?_) (fun hab => ?_) | refine CW.cond rfl (fun hab => ?_) (fun hab => ?_)
        · skip
          refine CW.seq (CW.region ?_)
          refine RW.assign rfl rfl ?_
          refine RW.nil (EX.seq (CW.ret (EX.bkR (EX.seqR (EX.lpR (EX.bkR (EX.seqR ?_)))))))
          refine EX.fin1 Try.results11 rfl (fun wz hw => ?_)
          -- mq: done
          have hne' : a ≠ b := by simpa using hab
          exact ⟨by rw [decide_eq_false (fun e => hne' (by subst e; rw [ha] at hb; exact Option.some.inj hb))], hw.ext⟩
        · skip
          refine CW.skip (EX.bkN (EX.seq (CW.region ?_)))
          refine RW.move rfl rfl ?_
          refine RW.add rfl rfl rfl (wrap64 (by omega) (by omega)) ?_
          refine RW.assign rfl rfl ?_
          refine RW.nil ?_
          -- mq: loopend
          have hab' : a = b := by simpa using hab
          refine EX.lpN (k + 1) ⟨by omega, by rw [List.take_add_one, List.take_add_one, he, ha, hb, hab']⟩ (by omega) (by repeat (first | exact Sub.nil | refine Sub.cons (by rfl) ?_)) (fun w' hw' => hw')
      · skip
        refine CW.exit (EX.seqE (EX.lpE (EX.bkE (EX.seq (CW.seq (CW.region ?_))))))
        refine RW.assign rfl rfl ?_
        refine RW.nil (EX.seq (CW.ret ?_))
        refine EX.fin1 Try.results11 rfl (fun wz hw => ?_)
        -- mq: done
        have hkn : k = n := by omega
        have hxy : x = y := by
          rw [List.take_of_length_le (by omega), List.take_of_length_le (by omega)] at he
          exact he
        exact ⟨by rw [decide_eq_true hxy], hw.ext⟩
theorem fits_c (w : World) (cols : Int) : Calls Try.prog 15 [.int .i64 cols].toArray w (fun e w' => e = .returned (.bool (decide (2 ≤ cols) && decide (cols ≤ 1000))) ∧ Ext [] w w') := by
  refine calls (n := 9) Try.func15 rfl Try.ntmps15 rfl ?_
  refine CW.sub (H' := SH w [] []) ?_ (Sub.refl _) (fun x hx => SH.start' _ _ hx)
  refine CW.seq (CW.region ?_)
  refine RW.assign rfl rfl ?_
  refine RW.nil (EX.seq (CW.seq (CW.region ?_)))
  refine RW.move rfl rfl ?_
  refine RW.geq rfl rfl rfl ?_
  refine RW.move rfl rfl ?_
  -- mq: guard slot 5
  refine RW.casesB 5 rfl (fun h => ?_) (fun h => ?_)
  · skip
    have hp := of_decide_eq_true h
    refine RW.guardT rfl rfl h ?_
    refine RW.move rfl rfl ?_
    refine RW.guardT rfl rfl h ?_
    refine RW.leq rfl rfl rfl ?_
    refine RW.pickB rfl rfl h rfl ?_
    refine RW.assign rfl rfl ?_
    refine RW.nil (EX.seq (CW.ret ?_))
    refine EX.fin1 Try.results15 rfl (fun wz hw => ?_)
    -- mq: done
    exact ⟨by simp [hp], hw.ext⟩
  · skip
    have hp := of_decide_eq_false h
    refine RW.guardF rfl rfl rfl h ?_
    refine RW.guardF rfl rfl rfl h ?_
    refine RW.pickC rfl rfl h rfl ?_
    refine RW.assign rfl rfl ?_
    refine RW.nil (EX.seq (CW.ret ?_))
    refine EX.fin1 Try.results15 rfl (fun wz hw => ?_)
    -- mq: done
    exact ⟨by simp [hp], hw.ext⟩
end Go.Proofs.Ytjmmikdbhhomiaa.Mq

namespace Go.Proofs.Ytjmmikdbhhomiaa.Mq
open Go Go.RowKit Go.Proofs

abbrev RowL := List CellV × Bool
/-- rows that read as lists of cells, and whether they go on -/
structure RdRows (w : World) (F : Nat → Prop) (A : Option Addr) (n c : Nat) (rows : List RowL) : Prop where
  prf : ∃ rs : List RowV, Rd ERow w F A n c rs ∧ rs.map (·.cont) = rows.map (·.2) ∧ ∀ (k : Nat) (r : RowV) (row : RowL), rs[k]? = some r → rows[k]? = some row → Rd ECell w F r.A r.n r.c row.1
theorem RdRows.len {w : World} {F : Nat → Prop} {A : Option Addr} {n c : Nat} {rows : List RowL} (h : RdRows w F A n c rows) : rows.length = n := by
  obtain ⟨rs, h1, h2, _⟩ := h.prf
  have := congrArg List.length h2
  simp only [List.length_map] at this
  rw [← this, h1.len]
theorem RdRows.ext {w w' : World} {F : Nat → Prop} {S : List Nat} {A : Option Addr} {n c : Nat} {rows : List RowL} (h : RdRows w F A n c rows) (he : Ext S w w') (hs : ∀ k, F k → k ∉ S) : RdRows w' F A n c rows := by
  obtain ⟨rs, h1, h2, h3⟩ := h.prf
  exact ⟨rs, h1.ext he hs, h2, fun k r row hk hr => (h3 k r row hk hr).ext he hs⟩
theorem RdRows.weak {w : World} {F F' : Nat → Prop} {A : Option Addr} {n c : Nat} {rows : List RowL} (h : RdRows w F A n c rows) (hF : ∀ k, F k → F' k) : RdRows w F' A n c rows := by
  obtain ⟨rs, h1, h2, h3⟩ := h.prf
  exact ⟨rs, h1.weak hF, h2, fun k r row hk hr => (h3 k r row hk hr).weak hF⟩
theorem RdRows.at_ {w : World} {F : Nat → Prop} {A : Option Addr} {n c : Nat} {rows : List RowL} (h : RdRows w F A n c rows) {k : Nat} {row : RowL} (hk : rows[k]? = some row) :
    ∃ ad B m d, A = some ad ∧ F ad.block ∧ (∀ j u, ([.slice B m d, .bool row.2] : List Value)[j]? = some u → w.cell? ((ad.add (k * 2)).add j) = some u) ∧ Rd ECell w F B m d row.1 := by
  obtain ⟨rs, h1, h2, h3⟩ := h.prf
  have hlt := (List.getElem?_eq_some_iff.1 hk).1
  have hl : rs.length = rows.length := by simpa using congrArg List.length h2
  obtain ⟨r, hr⟩ : ∃ r, rs[k]? = some r := ⟨rs[k]'(by omega), List.getElem?_eq_getElem _⟩
  have hc : r.cont = row.2 := by
    have := congrArg (fun l => l[k]?) h2
    simp only [List.getElem?_map, hr, hk, Option.map_some, Option.some.injEq] at this
    exact this
  obtain ⟨ad, hA, hF, hcell⟩ := h1.at_ hr
  exact ⟨ad, r.A, r.n, r.c, hA, hF, fun j u hj => hcell j u (by rw [← hc] at hj; exact hj), h3 k r row hr hk⟩
def cellsOf (rows : List RowL) : List CellV := (rows.flatMap (·.1)).filter (fun c => decide (c.half ≠ 3))
def flowF (rows : List RowL) : List CellV := trimL (mendL (cellsOf rows))
theorem cellsOf_snoc (rows : List RowL) (r : RowL) : cellsOf (rows ++ [r]) = cellsOf rows ++ r.1.filter (fun c => decide (c.half ≠ 3)) := by simp [cellsOf]
theorem take_snoc' {α : Type} {l : List α} {k : Nat} {a : α} (h : l[k]? = some a) : l.take (k + 1) = l.take k ++ [a] := by rw [List.take_add_one, h]; rfl
theorem filter_snoc {α : Type} (p : α → Bool) (l : List α) (a : α) : (l ++ [a]).filter p = if p a = true then l.filter p ++ [a] else l.filter p := by
  by_cases h : p a = true <;> simp [h]
def sumLen (rows : List RowL) : Nat := (rows.map (·.1.length)).sum
theorem cellsOf_le (rows : List RowL) : (cellsOf rows).length ≤ sumLen rows := by
  unfold cellsOf sumLen
  refine Nat.le_trans (List.length_filter_le _ _) ?_
  rw [List.length_flatMap]
  exact Nat.le_refl _
theorem sumLen_take_le (rows : List RowL) (k : Nat) : sumLen (rows.take k) ≤ sumLen rows := by
  have h := List.take_append_drop k rows
  have : sumLen rows = sumLen (rows.take k) + sumLen (rows.drop k) := by
    conv => lhs; rw [← h]
    simp only [sumLen, List.map_append, List.sum_append]
  omega

theorem Flow_c (w : World) (F : Nat → Prop) (A : Option Addr) (n c : Nat) (rows : List RowL) (hr : RdRows w F A n c rows) (hn : n ≤ 1000000) (hs : sumLen rows ≤ 1000000) :
    Calls Try.prog 18 [.slice A n c].toArray w (RetSl ECell w (flowF rows)) := by
  have hl := hr.len
  refine calls (n := 36) Try.func18 rfl Try.ntmps18 rfl ?_
  refine CW.sub (H' := SH w [] []) ?_ (Sub.refl _) (fun x hx => SH.start' _ _ hx)
  refine CW.ownNil 37 8 ?_
  refine CW.seq (CW.region ?_)
  refine RW.assign rfl rfl ?_
  refine RW.nil (EX.seq (CW.seq (CW.region ?_)))
  refine RW.assign rfl rfl ?_
  refine RW.nil (EX.seq (CW.seq (CW.seq (CW.region ?_))))
  refine RW.move rfl rfl ?_
  refine RW.lenSl Try.underlying22 rfl rfl ?_
  refine RW.move rfl rfl ?_
  refine RW.nil (EX.seq (CW.block ?_))
  -- mq: loop
  refine CW.loop (ι := Nat × Value × List CellV) (fun i => [(3, i.2.1), (8, .slice A n c), (9, .int .i64 (n : Int)), (10, .int .i64 (i.1 : Int))]) (fun i => SH w [] [own 37 8 i.2.1 i.2.2.length (ECell.all i.2.2)]) (fun i => i.1 ≤ n ∧ i.2.2 = cellsOf (rows.take i.1) ∧ ∀ g, i.2.1.ownBlock = some g → w.heap.size ≤ g) (fun i => n - i.1) ?_ ?_
  · exact fun w hw => ⟨(0, .slice none 0 0, []), ⟨Nat.zero_le _, rfl, by simp [Value.ownBlock]⟩, (by repeat (first | exact Sub.nil | refine Sub.cons (by rfl) ?_)), hw⟩
  · rintro ⟨k, v, L⟩ ⟨hk, hL, hv⟩
    dsimp only at hk hL hv ⊢
    refine CW.seq (CW.region ?_)
    refine RW.lss rfl rfl rfl ?_
    refine RW.nil (EX.seq (CW.seq ?_))
    -- mq: cond
    first | refine CW.condD rfl (fun hlt => ?_) (fun hlt => ?_) | refine CW.cond rfl (fun hlt => ?_) (fun hlt => ?_)
    · skip
      obtain ⟨row, hrow⟩ : ∃ row, rows[k]? = some row := ⟨rows[k]'(by omega), List.getElem?_eq_getElem _⟩
      obtain ⟨ad, B, m, d, hA, _, hcell, hrd⟩ := hr.at_ hrow
      have hm := hrd.len
      have hsl : L.length + m ≤ 1000000 := by
        have h1 := sumLen_take_le rows (k + 1)
        rw [take_snoc' hrow] at h1
        have h2 : sumLen (rows.take k ++ [row]) = sumLen (rows.take k) + m := by simp [sumLen, hm]
        have h3 := cellsOf_le (rows.take k)
        rw [hL]
        omega
      refine CW.skip (EX.seq (CW.seq (CW.block (CW.seq (CW.region ?_)))))
      refine RW.ixAddr sl22 rfl rfl rfl (by first | rfl | assumption) (by rfl) (by omega) ?_
      refine RW.loadA ag31 rfl rfl (rfl) (fun w' hw' j u hj => hw'.base_cell (hcell j u hj) (by simp)) ?_
      refine RW.allocA ag31 rfl (fun g5 hg5 hf5 => ?_)
      refine RW.storeA ag31 rfl rfl (by first | exact Upd.head | exact Upd.tail Upd.head | exact Upd.tail (Upd.tail Upd.head) | exact Upd.tail (Upd.tail (Upd.tail Upd.head)) | exact Upd.tail (Upd.tail (Upd.tail (Upd.tail Upd.head))) | exact Upd.tail (Upd.tail (Upd.tail (Upd.tail (Upd.tail Upd.head)))) | exact Upd.tail (Upd.tail (Upd.tail (Upd.tail (Upd.tail (Upd.tail Upd.head)))))) (by first | rfl | exact Enc.len _ _) (by repeat (first | exact Ones.nil | exact Enc.ones _ _ | refine Ones.cons rfl ?_)) (by first | exact Nat.le_of_ble_eq_true rfl | (simp only [Enc.len]; decide)) ?_
      refine RW.nil (EX.seq (CW.seq (CW.region ?_)))
      refine RW.fieldB fl31x0 rfl rfl ?_
      refine RW.loadB1 sc29 rfl rfl (by first | exact Has.head | exact Has.tail Has.head | exact Has.tail (Has.tail Has.head) | exact Has.tail (Has.tail (Has.tail Has.head)) | exact Has.tail (Has.tail (Has.tail (Has.tail Has.head))) | exact Has.tail (Has.tail (Has.tail (Has.tail (Has.tail Has.head)))) | exact Has.tail (Has.tail (Has.tail (Has.tail (Has.tail (Has.tail Has.head)))))) rfl ?_
      refine RW.lenSl Try.underlying29 rfl rfl ?_
      refine RW.move rfl rfl ?_
      refine RW.nil (EX.seq (CW.block ?_))
      -- mq: loop
      refine CW.loop (ι := Nat × Value × List CellV) (fun i => [(3, i.2.1), (8, .slice A n c), (9, .int .i64 (n : Int)), (10, .int .i64 (k : Int)), (15, .slice B m d), (16, .int .i64 (m : Int)), (17, .int .i64 (i.1 : Int))]) (fun i => SH w [] [own 37 8 i.2.1 i.2.2.length (ECell.all i.2.2)]) (fun i => i.1 ≤ m ∧ i.2.2 = L ++ (row.1.take i.1).filter (fun c => decide (c.half ≠ 3)) ∧ ∀ g, i.2.1.ownBlock = some g → w.heap.size ≤ g) (fun i => m - i.1) ?_ ?_
      · exact fun w hw => ⟨(0, v, L), ⟨Nat.zero_le _, by simp, hv⟩, (by repeat (first | exact Sub.nil | refine Sub.cons (by rfl) ?_)), hw.rem Rem.head⟩
      · rintro ⟨j, v', L'⟩ ⟨hj, hL', hv'⟩
        dsimp only at hj hL' hv' ⊢
        have hLl : L'.length ≤ L.length + j := by
          rw [hL', List.length_append]
          have := List.length_filter_le (fun c : CellV => decide (c.half ≠ 3)) (row.1.take j)
          rw [List.length_take] at this
          omega
        refine CW.seq (CW.region ?_)
        refine RW.lss rfl rfl rfl ?_
        refine RW.nil (EX.seq (CW.seq ?_))
        -- mq: cond
        first | refine CW.condD rfl (fun hjt => ?_) (fun hjt => ?_) | refine CW.cond rfl (fun hjt => ?_) (fun hjt => ?_)
        · skip
          obtain ⟨x, hx⟩ : ∃ x, row.1[j]? = some x := ⟨row.1[j]'(by omega), List.getElem?_eq_getElem _⟩
          obtain ⟨bd, hB, _, hxc⟩ := hrd.at_ hx
          refine CW.skip (EX.seq (CW.seq (CW.block (CW.seq (CW.region ?_)))))
          refine RW.ixAddr sl29 rfl rfl rfl (by first | rfl | assumption) (by rfl) (by omega) ?_
          refine RW.loadA ag37 rfl rfl (rfl) (fun w' hw' j u hj => hw'.base_cell (hxc j u hj) (by simp)) ?_
          refine RW.allocA ag37 rfl (fun g7 hg7 hf7 => ?_)
          refine RW.storeA ag37 rfl rfl (by first | exact Upd.head | exact Upd.tail Upd.head | exact Upd.tail (Upd.tail Upd.head) | exact Upd.tail (Upd.tail (Upd.tail Upd.head)) | exact Upd.tail (Upd.tail (Upd.tail (Upd.tail Upd.head))) | exact Upd.tail (Upd.tail (Upd.tail (Upd.tail (Upd.tail Upd.head)))) | exact Upd.tail (Upd.tail (Upd.tail (Upd.tail (Upd.tail (Upd.tail Upd.head)))))) (by first | rfl | exact Enc.len _ _) (by repeat (first | exact Ones.nil | exact Enc.ones _ _ | refine Ones.cons rfl ?_)) (by first | exact Nat.le_of_ble_eq_true rfl | (simp only [Enc.len]; decide)) ?_
          refine RW.nil (EX.seq (CW.seq (CW.region ?_)))
          refine RW.fieldB fl37x2 rfl rfl ?_
          refine RW.loadB1 sc3 rfl rfl (by first | exact Has.head | exact Has.tail Has.head | exact Has.tail (Has.tail Has.head) | exact Has.tail (Has.tail (Has.tail Has.head)) | exact Has.tail (Has.tail (Has.tail (Has.tail Has.head))) | exact Has.tail (Has.tail (Has.tail (Has.tail (Has.tail Has.head)))) | exact Has.tail (Has.tail (Has.tail (Has.tail (Has.tail (Has.tail Has.head)))))) rfl ?_
          refine RW.neqI rfl rfl rfl ?_
          refine RW.nil (EX.seq ?_)
          -- mq: cond
          first | refine CW.condD rfl (fun h3 => ?_) (fun h3 => ?_) | refine CW.cond rfl (fun h3 => ?_) (fun h3 => ?_)
          · skip
            refine CW.region ?_
            refine RW.move rfl rfl ?_
            refine RW.loadBA ag37 rfl rfl (by first | exact Has.head | exact Has.tail Has.head | exact Has.tail (Has.tail Has.head) | exact Has.tail (Has.tail (Has.tail Has.head)) | exact Has.tail (Has.tail (Has.tail (Has.tail Has.head))) | exact Has.tail (Has.tail (Has.tail (Has.tail (Has.tail Has.head)))) | exact Has.tail (Has.tail (Has.tail (Has.tail (Has.tail (Has.tail Has.head)))))) rfl rfl ?_
            refine RW.buildSlc sl29 rfl rfl rfl rfl (fun g26 hg26 hf26 => ?_)
            refine RW.append1 sl29 rfl rfl rfl (by first | exact Rem.head | exact Rem.tail Rem.head | exact Rem.tail (Rem.tail Rem.head) | exact Rem.tail (Rem.tail (Rem.tail Rem.head)) | exact Rem.tail (Rem.tail (Rem.tail (Rem.tail Rem.head))) | exact Rem.tail (Rem.tail (Rem.tail (Rem.tail (Rem.tail Rem.head)))) | exact Rem.tail (Rem.tail (Rem.tail (Rem.tail (Rem.tail (Rem.tail Rem.head)))))) (fun _ => by first | exact Upd.head | exact Upd.tail Upd.head | exact Upd.tail (Upd.tail Upd.head) | exact Upd.tail (Upd.tail (Upd.tail Upd.head)) | exact Upd.tail (Upd.tail (Upd.tail (Upd.tail Upd.head))) | exact Upd.tail (Upd.tail (Upd.tail (Upd.tail (Upd.tail Upd.head)))) | exact Upd.tail (Upd.tail (Upd.tail (Upd.tail (Upd.tail (Upd.tail Upd.head)))))) rfl (by repeat (first | exact Ones.nil | exact Enc.ones _ _ | refine Ones.cons rfl ?_)) (by simp only [maxLen]; omega) (by omega) (fun v27 hv27 => ?_)
            refine RW.assign rfl rfl ?_
            refine RW.nil (EX.bkN (EX.seq (CW.region ?_)))
            refine RW.add rfl rfl rfl (wrap64 (by omega) (by omega)) ?_
            refine RW.move rfl rfl ?_
            refine RW.nil ?_
            -- mq: loopend
            refine EX.lpN (j + 1, v27, L' ++ [x]) ⟨by omega, by rw [take_snoc' hx, filter_snoc, if_pos (decide_eq_true h3), hL', List.append_assoc], fun g hg => by
              rcases hv27 g hg with h | h
              · exact hv' g h
              · exact h.1⟩ (by omega) (by repeat (first | exact Sub.nil | refine Sub.cons (by rfl) ?_)) (fun w' hw' => ?_)
            rw [List.length_append, Enc.all_snoc]
            exact hw'.rem Rem.head
          · skip
            refine CW.skip (EX.bkN (EX.seq (CW.region ?_)))
            refine RW.add rfl rfl rfl (wrap64 (by omega) (by omega)) ?_
            refine RW.move rfl rfl ?_
            refine RW.nil ?_
            -- mq: loopend
            refine EX.lpN (j + 1, v', L') ⟨by omega, by rw [take_snoc' hx, filter_snoc, if_neg (fun h => h3 (of_decide_eq_true h)), hL'], hv'⟩ (by omega) (by repeat (first | exact Sub.nil | refine Sub.cons (by rfl) ?_)) (fun w' hw' => hw'.rem Rem.head)
        · skip
          refine CW.exit (EX.seqE (EX.lpE (EX.bkE (EX.bkN (EX.seq (CW.region ?_))))))
          refine RW.add rfl rfl rfl (wrap64 (by omega) (by omega)) ?_
          refine RW.move rfl rfl ?_
          refine RW.nil ?_
          -- mq: loopend
          have hjm : j = m := by omega
          subst hjm
          refine EX.lpN (k + 1, v', L') ⟨by omega, by rw [take_snoc' hrow, cellsOf_snoc, hL', hL, List.take_of_length_le (l := row.1) (by omega)], hv'⟩ (by omega) (by repeat (first | exact Sub.nil | refine Sub.cons (by rfl) ?_)) (fun w' hw' => hw')
    · skip
      have hkn : k = n := by omega
      subst hkn
      rw [List.take_of_length_le (by omega)] at hL
      have hLl : L.length ≤ 1000000 := by rw [hL]; exact Nat.le_trans (cellsOf_le rows) hs
      refine CW.exit (EX.seqE (EX.lpE (EX.bkE (EX.seq (CW.seq (CW.region ?_))))))
      refine RW.move rfl rfl ?_
      -- mq: at
      refine RW.rebase (fun w1 hw1 => ?_)
      obtain ⟨A1, c1, rfl, hrd1⟩ := Rd.of_own (E := ECell) (hw1.has Has.head) rfl
      refine RW.callR rfl ca33 rfl (fun w' hw' => Mend_c w' _ A1 L.length c1 L (hrd1.ext hw'.ext (by simp)) hLl) ?_
      intro w2 w3 A2 m2 c2 hw2 he3 hw3 hrd2
      have hm2 := hrd2.len
      rw [mendL_length] at hm2
      refine RW.assign rfl rfl ?_
      refine RW.nil (EX.seq (CW.seq (CW.region ?_)))
      refine RW.move rfl rfl ?_
      refine RW.move rfl rfl ?_
      -- mq: op 2: ('Op.call', ('Call.mk', ('Callee.value', ('Operand.func', '34')), ('arr', ('Operand.tmp', '33')), ('arr', '29'))) -> slot 34 ("flow.go:38")
      refine RW.call rfl ca34 rfl (fun w' hw' => Used_c w' _ A2 m2 c2 _ (hrd2.ext hw'.ext (by simp)) (by omega)) ?_
      have hul := usedL_le (mendL L)
      rw [mendL_length] at hul
      have hcap := hrd2.cap
      refine RW.sliceSl 0 (usedL (mendL L)) sl29 rfl rfl (.inr ⟨rfl, rfl⟩) (.inl ⟨_, _, rfl, rfl, rfl⟩) (by omega) (by omega) ?_
      refine RW.assign rfl rfl ?_
      refine RW.nil (EX.seq (CW.ret ?_))
      refine EX.fin1 Try.results18 rfl (fun wz hw => ?_)
      -- mq: done
      have hcut := hrd2.cut (p := 0) (q := usedL (mendL L)) (by omega) (by omega)
      refine ⟨_, _, _, rfl, (hw1.ext.trans0 hw2.ext).trans0 (he3.trans0 hw.ext), ?_⟩
      have h5 := (hcut.ext0 hw.ext).weak (F' := fun k => w.heap.size ≤ k) (fun k hk => Nat.le_trans (Nat.le_trans hw1.ext.size hw2.ext.size) hk)
      rw [List.drop_zero] at h5
      subst hL
      exact h5

def unpad (c : CellV) : CellV := if c.half = 3 then emptyC c.at_ else c
def plainF (l : List CellV) : List CellV := mendL (l.map unpad)
theorem plainF_length (l : List CellV) : (plainF l).length = l.length := by rw [plainF, mendL_length, List.length_map]
theorem plain_c (w : World) (F : Nat → Prop) (A : Option Addr) (n c : Nat) (l : List CellV) (hr : Rd ECell w F A n c l) (hn : n ≤ 1000000) :
    Calls Try.prog 31 [.slice A n c].toArray w (RetSl ECell w (plainF l)) := by
  have hl := hr.len
  refine calls (n := 27) Try.func31 rfl Try.ntmps31 rfl ?_
  refine CW.sub (H' := SH w [] []) ?_ (Sub.refl _) (fun x hx => SH.start' _ _ hx)
  refine CW.ownNil 37 8 ?_
  refine CW.seq (CW.region ?_)
  refine RW.assign rfl rfl ?_
  refine RW.nil (EX.seq (CW.seq (CW.region ?_)))
  refine RW.move rfl rfl ?_
  refine RW.appendSl (E := ECell) sl29 rfl rfl rfl (fun _ => by first | exact Upd.head | exact Upd.tail Upd.head | exact Upd.tail (Upd.tail Upd.head) | exact Upd.tail (Upd.tail (Upd.tail Upd.head)) | exact Upd.tail (Upd.tail (Upd.tail (Upd.tail Upd.head))) | exact Upd.tail (Upd.tail (Upd.tail (Upd.tail (Upd.tail Upd.head)))) | exact Upd.tail (Upd.tail (Upd.tail (Upd.tail (Upd.tail (Upd.tail Upd.head)))))) (fun w' hw' => hr.ext hw'.ext (by simp)) (by simp only [maxLen]; omega) (by omega) (fun v7 hv7 => ?_)
  refine RW.assign rfl rfl ?_
  refine RW.nil (EX.seq (CW.seq (CW.seq ?_)))
  -- mq: region
  refine CW.formOwn (v := v7) Has.head (fun A0 c0 hv0 hcap0 hmax0 hlen0 hg0 => ?_)
  subst hv0
  rw [Nat.zero_add] at *
  refine CW.region ?_
  refine RW.move rfl rfl ?_
  refine RW.lenSl Try.underlying29 rfl rfl ?_
  refine RW.move rfl rfl ?_
  refine RW.nil (EX.seq (CW.block ?_))
  -- mq: loop
  refine CW.loop (ι := List CellV × List CellV) (fun i => [(3, .slice A0 n c0), (8, .slice A0 n c0), (9, .int .i64 (n : Int)), (10, .int .i64 (i.1.length : Int))]) (fun i => SH w [] [own 37 8 (.slice A0 n c0) n (ECell.all (i.1.map unpad ++ i.2))]) (fun i => l = i.1 ++ i.2) (fun i => i.2.length) ?_ ?_
  · exact fun w hw => ⟨([], l), rfl, (by repeat (first | exact Sub.nil | refine Sub.cons (by rfl) ?_)), hw⟩
  · rintro ⟨pre, rest⟩ hsp
    dsimp only at hsp ⊢
    have hpl : pre.length + rest.length = n := by rw [← hl, hsp, List.length_append]
    refine CW.seq (CW.region ?_)
    refine RW.lss rfl rfl rfl ?_
    refine RW.nil (EX.seq (CW.seq ?_))
    -- mq: cond
    first | refine CW.condD rfl (fun hlt => ?_) (fun hlt => ?_) | refine CW.cond rfl (fun hlt => ?_) (fun hlt => ?_)
    · skip
      cases rest with
      | nil => simp at hpl; omega
      | cons x rest =>
      obtain ⟨g, rfl⟩ := hg0 (by omega)
      have hk : (pre.map unpad ++ x :: rest)[pre.length]? = some x := by simp [List.getElem?_append_right]
      refine CW.skip (EX.seq (CW.seq (CW.block (CW.seq (CW.region ?_)))))
      refine RW.move rfl rfl ?_
      refine RW.ixAddr sl29 rfl rfl rfl (by first | rfl | assumption) (by rfl) (by omega) ?_
      refine RW.loadA ag37 rfl rfl (rfl) (fun w' hw' j u hj => hw'.own_at (E := ECell) Has.head hk j u hj) ?_
      refine RW.allocA ag37 rfl (fun g5 hg5 hf5 => ?_)
      refine RW.assign rfl rfl ?_
      refine RW.storeA ag37 rfl rfl (by first | exact Upd.head | exact Upd.tail Upd.head | exact Upd.tail (Upd.tail Upd.head) | exact Upd.tail (Upd.tail (Upd.tail Upd.head)) | exact Upd.tail (Upd.tail (Upd.tail (Upd.tail Upd.head))) | exact Upd.tail (Upd.tail (Upd.tail (Upd.tail (Upd.tail Upd.head)))) | exact Upd.tail (Upd.tail (Upd.tail (Upd.tail (Upd.tail (Upd.tail Upd.head)))))) (by first | rfl | exact Enc.len _ _) (by repeat (first | exact Ones.nil | exact Enc.ones _ _ | refine Ones.cons rfl ?_)) (by first | exact Nat.le_of_ble_eq_true rfl | (simp only [Enc.len]; decide)) ?_
      refine RW.nil (EX.seq (CW.seq (CW.region ?_)))
      refine RW.fieldB fl37x2 rfl rfl ?_
      refine RW.loadB1 sc3 rfl rfl (by first | exact Has.head | exact Has.tail Has.head | exact Has.tail (Has.tail Has.head) | exact Has.tail (Has.tail (Has.tail Has.head)) | exact Has.tail (Has.tail (Has.tail (Has.tail Has.head))) | exact Has.tail (Has.tail (Has.tail (Has.tail (Has.tail Has.head)))) | exact Has.tail (Has.tail (Has.tail (Has.tail (Has.tail (Has.tail Has.head)))))) rfl ?_
      refine RW.eqlI rfl rfl rfl ?_
      refine RW.nil (EX.seq ?_)
      -- mq: cond
      first | refine CW.condD rfl (fun h3 => ?_) (fun h3 => ?_) | refine CW.cond rfl (fun h3 => ?_) (fun h3 => ?_)
      · skip
        refine CW.region ?_
        refine RW.move rfl rfl ?_
        refine RW.move rfl rfl ?_
        refine RW.fieldB fl37x3 rfl rfl ?_
        refine RW.loadBA ag35 rfl rfl (by first | exact Has.head | exact Has.tail Has.head | exact Has.tail (Has.tail Has.head) | exact Has.tail (Has.tail (Has.tail Has.head)) | exact Has.tail (Has.tail (Has.tail (Has.tail Has.head))) | exact Has.tail (Has.tail (Has.tail (Has.tail (Has.tail Has.head)))) | exact Has.tail (Has.tail (Has.tail (Has.tail (Has.tail (Has.tail Has.head)))))) rfl rfl ?_
        refine RW.buildS bu37 rfl rfl rfl ?_
        refine RW.ixAddr sl29 rfl rfl rfl (by first | rfl | assumption) (by rfl) (by omega) ?_
        refine RW.storeOwnA (o := pre.length * 8) ag37 rfl rfl (by first | exact Upd.head | exact Upd.tail Upd.head | exact Upd.tail (Upd.tail Upd.head) | exact Upd.tail (Upd.tail (Upd.tail Upd.head)) | exact Upd.tail (Upd.tail (Upd.tail (Upd.tail Upd.head))) | exact Upd.tail (Upd.tail (Upd.tail (Upd.tail (Upd.tail Upd.head)))) | exact Upd.tail (Upd.tail (Upd.tail (Upd.tail (Upd.tail (Upd.tail Upd.head)))))) (by simp [Addr.add_lit]) rfl (ECell.ones (emptyC x.at_)) (by rw [ECell.all_length]; show pre.length * 8 + 8 ≤ _ * 8; simp; omega) ?_
        refine RW.nil (EX.bkN (EX.seq (CW.region ?_)))
        refine RW.add rfl rfl rfl (wrap64 (by omega) (by omega)) ?_
        refine RW.move rfl rfl ?_
        refine RW.nil ?_
        -- mq: loopend
        refine EX.lpN (pre ++ [x], rest) (by simp [hsp]) (by simp) (Sub.cons (by rfl) (Sub.cons (by rfl) (Sub.cons (by rfl) (Sub.cons (by simp [look]) Sub.nil)))) (fun w' hw' => ?_)
        have hs := ECell.splice_all (L := pre.map unpad ++ x :: rest) (i := pre.length) (emptyC x.at_) (by simp)
        have hset : (pre.map unpad ++ x :: rest).set pre.length (emptyC x.at_) = (pre ++ [x]).map unpad ++ rest := by simp [unpad, h3]
        rw [hset] at hs
        have := hw'.rem Rem.head
        dsimp only
        rw [← hs]
        exact this
      · skip
        refine CW.skip (EX.bkN (EX.seq (CW.region ?_)))
        refine RW.add rfl rfl rfl (wrap64 (by omega) (by omega)) ?_
        refine RW.move rfl rfl ?_
        refine RW.nil ?_
        -- mq: loopend
        refine EX.lpN (pre ++ [x], rest) (by simp [hsp]) (by simp) (Sub.cons (by rfl) (Sub.cons (by rfl) (Sub.cons (by rfl) (Sub.cons (by simp [look]) Sub.nil)))) (fun w' hw' => ?_)
        have := hw'.rem Rem.head
        simpa [unpad, h3] using this
    · skip
      have hr0 : rest = [] := List.eq_nil_of_length_eq_zero (by omega)
      subst hr0
      rw [List.append_nil] at hsp
      subst hsp
      refine CW.exit (EX.seqE (EX.lpE (EX.bkE (EX.seq (CW.seq (CW.region ?_))))))
      refine RW.move rfl rfl ?_
      -- mq: at
      refine RW.rebase (fun w1 hw1 => ?_)
      have hown : w1.ownsRow 0 37 8 (.slice A0 n c0) n (ECell.all (l.map unpad)) := by
        have := hw1.has Has.head
        rw [List.append_nil] at this
        exact this
      obtain ⟨A1, c1, he1, hrd1⟩ := Rd.of_own (E := ECell) hown (by rw [List.length_map, hl])
      cases he1
      refine RW.callR rfl ca33 rfl (fun w' hw' => Mend_c w' _ A0 n c0 _ (hrd1.ext hw'.ext (by simp)) hn) ?_
      intro w2 w3 A2 m2 c2 hw2 he3 hw3 hrd2
      refine RW.assign rfl rfl ?_
      refine RW.nil (EX.seq (CW.ret ?_))
      refine EX.fin1 Try.results31 rfl (fun wz hw => ?_)
      -- mq: done
      exact ⟨_, _, _, rfl, (hw1.ext.trans0 hw2.ext).trans0 (he3.trans0 hw.ext), (hrd2.ext0 hw.ext).weak (fun k hk => Nat.le_trans (Nat.le_trans hw1.ext.size hw2.ext.size) hk)⟩
def takeF (l : List CellV) (cols : Nat) : Nat :=
  if l.length < cols then l.length else if (l[cols - 1]?.map (·.half)) = some 1 then cols - 1 else cols
theorem take_c (w : World) (F : Nat → Prop) (A : Option Addr) (n c : Nat) (l : List CellV) (cols : Nat) (hr : Rd ECell w F A n c l) (hn : n ≤ 4000000) (hc1 : 1 ≤ cols) (hc2 : cols ≤ 1000) :
    Calls Try.prog 32 [.slice A n c, .int .i64 (cols : Int)].toArray w (fun e w' => e = .returned (.int .i64 (takeF l cols : Int)) ∧ Ext [] w w') := by
  have hl := hr.len
  refine calls (n := 21) Try.func32 rfl Try.ntmps32 rfl ?_
  refine CW.sub (H' := SH w [] []) ?_ (Sub.refl _) (fun x hx => SH.start' _ _ hx)
  refine CW.seq (CW.region ?_)
  refine RW.assign rfl rfl ?_
  refine RW.nil (EX.seq (CW.seq (CW.seq (CW.region ?_))))
  refine RW.move rfl rfl ?_
  refine RW.lenSl Try.underlying29 rfl rfl ?_
  refine RW.move rfl rfl ?_
  refine RW.lss rfl rfl rfl ?_
  refine RW.nil (EX.seq ?_)
  -- mq: cond
  first | refine CW.condD rfl (fun h1 => ?_) (fun h1 => ?_) | refine CW.cond rfl (fun h1 => ?_) (fun h1 => ?_)
  · skip
    refine CW.seq (CW.region ?_)
    refine RW.move rfl rfl ?_
    refine RW.lenSl Try.underlying29 rfl rfl ?_
    refine RW.assign rfl rfl ?_
    refine RW.nil (EX.seq (CW.ret (EX.seqR ?_)))
    refine EX.fin1 Try.results32 rfl (fun wz hw => ?_)
    -- mq: done
    exact ⟨by rw [takeF, if_pos (by omega), hl], hw.ext⟩
  · skip
    obtain ⟨x, hx⟩ : ∃ x, l[cols - 1]? = some x := ⟨l[cols - 1]'(by omega), List.getElem?_eq_getElem _⟩
    obtain ⟨ad, hA, _, hcell⟩ := hr.at_ hx
    refine CW.skip (EX.seq (CW.seq (CW.seq (CW.region ?_))))
    refine RW.move rfl rfl ?_
    refine RW.move rfl rfl ?_
    refine RW.sub_ rfl rfl rfl (wrap64 (by omega) (by omega)) ?_
    refine RW.ixAddr (q := cols - 1) sl29 rfl rfl rfl (by first | rfl | assumption) (by omega) (by omega) ?_
    refine RW.fieldP fl37x2 rfl rfl ?_
    refine RW.load1 sc3 rfl rfl (fun w' hw' => hw'.base_cell (hcell 2 _ rfl) (by simp)) ?_
    refine RW.eqlI rfl rfl rfl ?_
    refine RW.nil (EX.seq ?_)
    -- mq: cond
    first | refine CW.condD rfl (fun h2 => ?_) (fun h2 => ?_) | refine CW.cond rfl (fun h2 => ?_) (fun h2 => ?_)
    · skip
      refine CW.seq (CW.region ?_)
      refine RW.move rfl rfl ?_
      refine RW.sub_ rfl rfl rfl (wrap64 (by omega) (by omega)) ?_
      refine RW.assign rfl rfl ?_
      refine RW.nil (EX.seq (CW.ret (EX.seqR ?_)))
      refine EX.fin1 Try.results32 rfl (fun wz hw => ?_)
      -- mq: done
      refine ⟨?_, hw.ext⟩
      rw [takeF, if_neg (by omega), if_pos (by rw [hx]; simp [h2]), show ((cols - 1 : Nat) : Int) = (cols : Int) - 1 by omega]
    · skip
      refine CW.skip (EX.seq (CW.seq (CW.region ?_)))
      refine RW.move rfl rfl ?_
      refine RW.assign rfl rfl ?_
      refine RW.nil (EX.seq (CW.ret ?_))
      refine EX.fin1 Try.results32 rfl (fun wz hw => ?_)
      -- mq: done
      refine ⟨?_, hw.ext⟩
      rw [takeF, if_neg (by omega), if_neg (by rw [hx]; simpa using h2)]
end Go.Proofs.Ytjmmikdbhhomiaa.Mq

namespace Go.Proofs.Ytjmmikdbhhomiaa.Mq
open Go Go.RowKit Go.Proofs

def padC : CellV := { zeroC with half := 3 }
def restOf (left : List CellV) (cols : Nat) : List CellV := left.drop (takeF left cols)
def rowOf (left : List CellV) (cols : Nat) : List CellV :=
  if takeF left cols = cols - 1 ∧ restOf left cols ≠ [] then (left.take (takeF left cols) ++ List.replicate (cols - takeF left cols) zeroC).set (takeF left cols) padC
  else left.take (takeF left cols) ++ List.replicate (cols - takeF left cols) zeroC
def splitAux : Nat → List CellV → Nat → Bool → List RowL
  | 0, _, _, _ => []
  | f + 1, left, cols, cont => (rowOf left cols, cont) :: (if restOf left cols = [] then [] else splitAux f (restOf left cols) cols true)
def splitF (l : List CellV) (cols : Nat) : List RowL := splitAux (l.length + 1) (plainF l) cols false
theorem takeF_le (l : List CellV) (cols : Nat) : takeF l cols ≤ l.length ∧ takeF l cols ≤ cols := by
  unfold takeF
  split
  · omega
  · split <;> omega
theorem takeF_pos (l : List CellV) (cols : Nat) (hc : 2 ≤ cols) (hl : l ≠ []) : 1 ≤ takeF l cols := by
  have : 0 < l.length := List.length_pos_iff.2 hl
  unfold takeF
  split
  · omega
  · split <;> omega
theorem restOf_length (l : List CellV) (cols : Nat) : (restOf l cols).length = l.length - takeF l cols := by simp [restOf]
theorem all_drop {α : Type} (E : Enc α) (l : List α) (k : Nat) : (E.all l).drop (k * E.sz) = E.all (l.drop k) := by
  induction k generalizing l with
  | zero => simp
  | succ k ih =>
    cases l with
    | nil => simp [Enc.all]
    | cons a l =>
      have : E.all (a :: l) = E.enc a ++ E.all l := by simp [Enc.all]
      rw [this, Nat.add_mul, Nat.one_mul, Nat.add_comm, ← List.drop_drop, List.drop_left' (E.len a), List.drop_succ_cons]
      exact ih l
theorem zeros_all {α : Type} (E : Enc α) (a : α) (m : Nat) : zeros (E.enc a) m = E.all (List.replicate m a) := by
  induction m with
  | zero => simp [zeros, Enc.all]
  | succ m ih =>
    have : ∀ (l : List α), E.all (a :: l) = E.enc a ++ E.all l := fun l => by simp [Enc.all]
    rw [List.replicate_succ, this, zeros, ih]
theorem zeros_cell (m : Nat) : zeros [.int .i32 0, .string ByteArray.empty, .int .i64 0, .int .i64 0, .int .i64 0, .int .i64 0, .int .i64 0, .int .i64 0] m = ECell.all (List.replicate m zeroC) := zeros_all ECell zeroC m
structure SplitSt where
  wi : World
  v : Value
  rs : List RowV
  dn : List RowL
  lA : Option Addr
  ln : Nat
  lc : Nat
  left : List CellV
  f : Nat
structure SplitOk (w : World) (L0 cols : Nat) (total : List RowL) (s : SplitSt) : Prop where
  e1 : Ext [] w s.wi
  nest : ∀ (k : Nat) (r : RowV) (row : RowL), s.rs[k]? = some r → s.dn[k]? = some row → Rd ECell s.wi (fun k => w.heap.size ≤ k ∧ s.v.ownBlock ≠ some k) r.A r.n r.c row.1
  conts : s.rs.map (·.cont) = s.dn.map (·.2)
  leftR : Rd ECell s.wi (fun k => w.heap.size ≤ k ∧ s.v.ownBlock ≠ some k) s.lA s.ln s.lc s.left
  fresh : ∀ g, s.v.ownBlock = some g → w.heap.size ≤ g
  fuel : s.dn = [] ∨ s.left ≠ [] → s.left.length < s.f
  spec : total = s.dn ++ (if s.dn = [] ∨ s.left ≠ [] then splitAux s.f s.left cols (decide (s.dn ≠ [])) else [])
  size : s.dn.length + s.left.length ≤ L0 + 1
def RetRows (w : World) (L : List RowL) : Ending → World → Prop := fun e w' =>
  ∃ A n c, e = .returned (.slice A n c) ∧ Ext [] w w' ∧ RdRows w' (fun k => w.heap.size ≤ k) A n c L

theorem Split_c (w : World) (F : Nat → Prop) (A : Option Addr) (n c : Nat) (l : List CellV) (cols : Nat) (hr : Rd ECell w F A n c l) (hn : n ≤ 1000000) (hc1 : 2 ≤ cols) (hc2 : cols ≤ 1000) :
    Calls Try.prog 17 [.slice A n c, .int .i64 (cols : Int)].toArray w (RetRows w (splitF l cols)) := by
  have hl := hr.len
  refine calls (n := 57) Try.func17 rfl Try.ntmps17 rfl ?_
  refine CW.sub (H' := SH w [] []) ?_ (Sub.refl _) (fun x hx => SH.start' _ _ hx)
  refine CW.seq (CW.region ?_)
  refine RW.assign rfl rfl ?_
  refine RW.nil (EX.seq (CW.seq (CW.seq (CW.region ?_))))
  refine RW.move rfl rfl ?_
  refine RW.call rfl ca15 rfl (fun w' _ => fits_c w' _) ?_
  refine RW.not_ rfl rfl ?_
  refine RW.nil (EX.seq ?_)
  -- mq: cond
  refine CW.condF rfl (by simp; omega) ?_
  refine CW.skip (EX.seq (CW.seq ?_))
  -- mq: region
  refine CW.region ?_
  refine RW.move rfl rfl ?_
  refine RW.callR rfl ca31 rfl (fun w' hw' => plain_c w' F A n c l (hr.ext hw'.ext (by simp)) hn) (fun wa wb lA0 ln0 lc0 hwa heb hwb hrd0 => ?_)
  refine RW.assign rfl rfl ?_
  refine RW.nil (EX.seq (CW.seq ?_))
  -- mq: region
  refine CW.ownNil 31 2 ?_
  refine CW.region ?_
  refine RW.assign rfl rfl ?_
  refine RW.nil (EX.seq (CW.seq (CW.block ?_)))
  -- mq: loop
  have hpl := plainF_length l
  refine CW.loop (ι := SplitSt) (fun s => [(1, .int .i64 (cols : Int)), (5, .slice s.lA s.ln s.lc), (6, s.v)]) (fun s => SH s.wi s.v.ownBlock.toList [own 31 2 s.v s.rs.length (ERow.all s.rs)]) (SplitOk w l.length cols (splitF l cols)) (fun s => if s.dn = [] then l.length + 1 else s.left.length) ?_ ?_
  · refine fun w' hw' => ⟨⟨w', .slice none 0 0, [], [], lA0, ln0, lc0, plainF l, l.length + 1⟩, ⟨(hwa.ext.trans0 heb).trans0 hw'.ext, by simp, rfl, (hrd0.ext hw'.ext (by simp)).weak (fun k hk => ⟨Nat.le_trans hwa.ext.size hk, by simp [Value.ownBlock]⟩), by simp [Value.ownBlock], fun _ => (show (plainF l).length < l.length + 1 by rw [hpl]; omega), by simp [splitF], by simp [hpl]⟩, (by repeat (first | exact Sub.nil | refine Sub.cons (by rfl) ?_)), ?_⟩
    exact hw'.only Has.head (own_nodup _ _ _ _ _)
  · rintro ⟨wi, v, rs, dn, lA, ln, lc, left, f⟩ hok
    obtain ⟨e1, nest, conts, leftR, fresh, fuel, spec, size⟩ := hok
    dsimp only at e1 nest conts leftR fresh fuel spec size ⊢
    have hll := leftR.len
    have hrd := congrArg List.length conts
    simp only [List.length_map] at hrd
    refine CW.formOwn (v := v) Has.head (fun Ao co hv hcap hmax hlen hg => ?_)
    subst hv
    refine CW.seq (CW.seq ?_)
    -- mq: region
    refine CW.join ([(21, .bool (decide (rs.length = 0) || decide (0 < ln))), (1, .int .i64 (cols : Int)), (5, .slice lA ln lc), (6, .slice Ao rs.length co)]) (SH wi (Value.slice Ao rs.length co).ownBlock.toList [own 31 2 (.slice Ao rs.length co) rs.length (ERow.all rs)]) ?_ ?_
    · skip
      refine CW.region ?_
      refine RW.move rfl rfl ?_
      refine RW.lenSl Try.underlying22 rfl rfl ?_
      refine RW.eqlI rfl rfl rfl ?_
      refine RW.move rfl rfl ?_
      -- mq: guard slot 17
      refine RW.casesB 17 rfl (fun h => ?_) (fun h => ?_)
      · skip
        have hp := of_decide_eq_true h
        refine RW.guardF rfl rfl rfl h ?_
        refine RW.guardF rfl rfl rfl h ?_
        refine RW.guardF rfl rfl rfl h ?_
        refine RW.pickB rfl rfl h rfl ?_
        refine RW.nil ?_
        -- mq: joinend
        exact EX.jn (Sub.cons (congrArg (fun x => some (Value.bool x)) (by rw [decide_eq_true (show rs.length = 0 by omega)]; rfl)) (by repeat (first | exact Sub.nil | refine Sub.cons (by rfl) ?_))) (fun _ h => h)
      · skip
        have hp := of_decide_eq_false h
        refine RW.guardT rfl rfl h ?_
        refine RW.move rfl rfl ?_
        refine RW.guardT rfl rfl h ?_
        refine RW.lenSl Try.underlying29 rfl rfl ?_
        refine RW.guardT rfl rfl h ?_
        refine RW.gtr rfl rfl rfl ?_
        refine RW.pickC rfl rfl h rfl ?_
        refine RW.nil ?_
        -- mq: joinend
        exact EX.jn (Sub.cons (congrArg (fun x => some (Value.bool x)) (by rw [decide_eq_false (show ¬ rs.length = 0 by omega), Bool.false_or]; exact decide_eq_decide.2 (by omega))) (by repeat (first | exact Sub.nil | refine Sub.cons (by rfl) ?_))) (fun _ h => h)
    · skip
      refine EX.seq ?_
      -- mq: cond
      first | refine CW.condD rfl (fun hgo => ?_) (fun hgo => ?_) | refine CW.cond rfl (fun hgo => ?_) (fun hgo => ?_)
      · skip
        have hcond : dn = [] ∨ left ≠ [] := by
          simp only [Bool.or_eq_true, decide_eq_true_eq] at hgo
          rcases hgo with h | h
          · exact .inl (List.eq_nil_of_length_eq_zero (by omega))
          · exact .inr (fun e => by subst e; simp at hll; omega)
        have hf := fuel hcond
        obtain ⟨f, rfl⟩ : ∃ f', f = f' + 1 := ⟨f - 1, by omega⟩
        rw [if_pos hcond] at spec
        have htk := takeF_le left cols
        refine CW.skip (EX.seq (CW.block (CW.seq (CW.region ?_))))
        refine RW.move rfl rfl ?_
        refine RW.move rfl rfl ?_
        refine RW.call rfl ca32 rfl (fun w' hw' => take_c w' _ lA ln lc left cols (leftR.ext hw'.ext (fun k hk hm => hk.2 (by simpa using hm))) (by omega) (by omega) hc2) ?_
        refine RW.assign rfl rfl ?_
        refine RW.nil (EX.seq (CW.seq ?_))
        -- mq: region
        refine CW.region ?_
        refine RW.move rfl rfl ?_
        refine RW.make cols sl29 rfl rfl rfl rfl (by simp only [maxLen]; omega) (by omega) (fun g hgl hgf => ?_)
        refine RW.assign rfl rfl ?_
        refine RW.nil (EX.seq (CW.seq ?_))
        -- mq: region
        rw [zeros_cell]
        have hcutA := leftR.cut (p := 0) (q := takeF left cols) (by omega) (by omega)
        have hcutB := leftR.cut (p := takeF left cols) (q := ln) (by omega) (Nat.le_refl _)
        rw [List.drop_zero] at hcutA
        have hlcap := leftR.cap
        refine CW.region ?_
        refine RW.move rfl rfl ?_
        refine RW.move rfl rfl ?_
        refine RW.move rfl rfl ?_
        refine RW.sliceSl 0 (takeF left cols) sl29 rfl rfl (.inr ⟨rfl, rfl⟩) (.inl ⟨_, _, rfl, rfl, rfl⟩) (by omega) (by omega) ?_
        refine RW.copyOwn (E := ECell) (src := left.take (takeF left cols)) sl29 rfl rfl rfl (by first | exact Upd.head | exact Upd.tail Upd.head | exact Upd.tail (Upd.tail Upd.head) | exact Upd.tail (Upd.tail (Upd.tail Upd.head)) | exact Upd.tail (Upd.tail (Upd.tail (Upd.tail Upd.head))) | exact Upd.tail (Upd.tail (Upd.tail (Upd.tail (Upd.tail Upd.head)))) | exact Upd.tail (Upd.tail (Upd.tail (Upd.tail (Upd.tail (Upd.tail Upd.head)))))) (fun w' hw' => hcutA.ext hw'.ext (fun k hk hm => hk.2 (by simpa using hm))) (by omega) ?_
        refine RW.nil (EX.seq (CW.seq (CW.seq ?_)))
        -- mq: region
        rw [Nat.sub_zero, all_drop, List.drop_replicate, ← ECell.all_append]
        refine CW.region ?_
        refine RW.move rfl rfl ?_
        refine RW.move rfl rfl ?_
        refine RW.sliceSl (takeF left cols) ln sl29 rfl rfl (.inl ⟨_, _, rfl, rfl, rfl⟩) (.inr ⟨rfl, rfl⟩) (by omega) (by omega) ?_
        refine RW.assign rfl rfl ?_
        refine RW.nil (EX.seq ?_)
        -- mq: seq
        have htl : left.take ln = left := List.take_of_length_le (by omega)
        rw [htl] at hcutB
        have hrl := restOf_length left cols
        refine CW.join ([(1, .int .i64 (cols : Int)), (5, .slice (if lc = takeF left cols then lA else lA.map (·.add (takeF left cols * 8))) (ln - takeF left cols) (lc - takeF left cols)), (6, .slice Ao rs.length co), (8, .slice (some ⟨g, 0, none⟩) cols cols)]) (SH wi (Value.slice Ao rs.length co).ownBlock.toList [own 37 8 (.slice (some ⟨g, 0, none⟩) cols cols) cols (ECell.all (rowOf left cols)), own 31 2 (.slice Ao rs.length co) rs.length (ERow.all rs)]) ?_ ?_
        · skip
          refine CW.seq (CW.region ?_)
          refine RW.move rfl rfl ?_
          refine RW.move rfl rfl ?_
          refine RW.sub_ rfl rfl rfl (wrap64 (by omega) (by omega)) ?_
          refine RW.eqlI rfl rfl rfl ?_
          refine RW.move rfl rfl ?_
          -- mq: guard slot 39
          refine RW.casesB 39 rfl (fun h1 => ?_) (fun h1 => ?_)
          · skip
            have h1p := of_decide_eq_true h1
            refine RW.guardT rfl rfl h1 ?_
            refine RW.move rfl rfl ?_
            refine RW.guardT rfl rfl h1 ?_
            refine RW.lenSl Try.underlying29 rfl rfl ?_
            refine RW.guardT rfl rfl h1 ?_
            refine RW.gtr rfl rfl rfl ?_
            refine RW.pickB rfl rfl h1 rfl ?_
            refine RW.nil (EX.seq ?_)
            -- mq: cond
            first | refine CW.condD rfl (fun h2 => ?_) (fun h2 => ?_) | refine CW.cond rfl (fun h2 => ?_) (fun h2 => ?_)
            · skip
              have hne : restOf left cols ≠ [] := fun e => by rw [e] at hrl; simp at hrl; omega
              have hrow : rowOf left cols = (left.take (takeF left cols) ++ List.replicate (cols - takeF left cols) zeroC).set (takeF left cols) padC := by rw [rowOf, if_pos ⟨by omega, hne⟩]
              have hX : (left.take (takeF left cols) ++ List.replicate (cols - takeF left cols) zeroC)[takeF left cols]? = some zeroC := by
                rw [List.getElem?_append_right (by rw [List.length_take]; omega), List.length_take, List.getElem?_replicate, if_pos (by omega)]
              have hset := ECell.all_set (j := 2) (a' := padC) (v := .int .i64 3) hX (by decide) rfl
              refine CW.region ?_
              refine RW.move rfl rfl ?_
              refine RW.move rfl rfl ?_
              refine RW.ixAddr (q := takeF left cols) sl29 rfl rfl rfl (by first | rfl | assumption) (by omega) (by omega) ?_
              refine RW.fieldP fl37x2 rfl rfl ?_
              refine RW.storeOwn1 (o := takeF left cols * 8 + 2) sc3 rfl rfl (by first | exact Upd.head | exact Upd.tail Upd.head | exact Upd.tail (Upd.tail Upd.head) | exact Upd.tail (Upd.tail (Upd.tail Upd.head)) | exact Upd.tail (Upd.tail (Upd.tail (Upd.tail Upd.head))) | exact Upd.tail (Upd.tail (Upd.tail (Upd.tail (Upd.tail Upd.head)))) | exact Upd.tail (Upd.tail (Upd.tail (Upd.tail (Upd.tail (Upd.tail Upd.head)))))) (by simp [Addr.add_lit]) rfl (by rw [ECell.all_length]; show _ < _ * 8; simp; omega) ?_
              refine RW.nil ?_
              -- mq: joinend
              refine EX.jn (by repeat (first | exact Sub.nil | refine Sub.cons (by rfl) ?_)) (fun w' hw' => ?_)
              rw [hrow, ← hset]
              exact hw'
            · skip
              refine CW.skip ?_
              -- mq: joinend
              have hrow : rowOf left cols = left.take (takeF left cols) ++ List.replicate (cols - takeF left cols) zeroC := by
                rw [rowOf, if_neg (fun h => h.2 (List.eq_nil_of_length_eq_zero (by omega)))]
              refine EX.jn (by repeat (first | exact Sub.nil | refine Sub.cons (by rfl) ?_)) (fun w' hw' => ?_)
              rw [hrow]
              exact hw'
          · skip
            have h1p := of_decide_eq_false h1
            refine RW.guardF rfl rfl rfl h1 ?_
            refine RW.guardF rfl rfl rfl h1 ?_
            refine RW.guardF rfl rfl rfl h1 ?_
            refine RW.pickC rfl rfl h1 rfl ?_
            refine RW.nil (EX.seq ?_)
            -- mq: cond
            refine CW.condF rfl (rfl) ?_
            refine CW.skip ?_
            -- mq: joinend
            have hrow : rowOf left cols = left.take (takeF left cols) ++ List.replicate (cols - takeF left cols) zeroC := by
              rw [rowOf, if_neg (fun h => h1p (by omega))]
            refine EX.jn (by repeat (first | exact Sub.nil | refine Sub.cons (by rfl) ?_)) (fun w' hw' => ?_)
            rw [hrow]
            exact hw'
        · skip
          refine EX.seq (CW.region ?_)
          refine RW.move rfl rfl ?_
          refine RW.move rfl rfl ?_
          refine RW.move rfl rfl ?_
          refine RW.lenSl Try.underlying22 rfl rfl ?_
          refine RW.gtr rfl rfl rfl ?_
          refine RW.buildS bu31 rfl rfl rfl ?_
          refine RW.buildSlc sl22 rfl rfl rfl rfl (fun g54 hg54 hf54 => ?_)
          refine RW.append1 sl22 rfl rfl rfl (by first | exact Rem.head | exact Rem.tail Rem.head | exact Rem.tail (Rem.tail Rem.head) | exact Rem.tail (Rem.tail (Rem.tail Rem.head)) | exact Rem.tail (Rem.tail (Rem.tail (Rem.tail Rem.head))) | exact Rem.tail (Rem.tail (Rem.tail (Rem.tail (Rem.tail Rem.head)))) | exact Rem.tail (Rem.tail (Rem.tail (Rem.tail (Rem.tail (Rem.tail Rem.head)))))) (fun _ => by first | exact Upd.head | exact Upd.tail Upd.head | exact Upd.tail (Upd.tail Upd.head) | exact Upd.tail (Upd.tail (Upd.tail Upd.head)) | exact Upd.tail (Upd.tail (Upd.tail (Upd.tail Upd.head))) | exact Upd.tail (Upd.tail (Upd.tail (Upd.tail (Upd.tail Upd.head)))) | exact Upd.tail (Upd.tail (Upd.tail (Upd.tail (Upd.tail (Upd.tail Upd.head)))))) rfl (by repeat (first | exact Ones.nil | exact Enc.ones _ _ | refine Ones.cons rfl ?_)) (by simp only [maxLen]; omega) (by omega) (fun v55 hv55 => ?_)
          refine RW.assign rfl rfl ?_
          refine RW.nil (EX.bkN ?_)
          -- mq: loopend
          have htp : left ≠ [] → 1 ≤ takeF left cols := fun h => takeF_pos left cols hc1 h
          refine EX.lpW (fun w' hw' => ⟨⟨w', v55, rs ++ [⟨some ⟨g, 0, none⟩, cols, cols, decide ((0 : Int) < (rs.length : Int))⟩], dn ++ [(rowOf left cols, decide (dn ≠ []))], _, _, _, restOf left cols, f⟩, ?_, ?_, (by repeat (first | exact Sub.nil | refine Sub.cons (by rfl) ?_)), ?_⟩)
          · have havoid : ∀ k, (w.heap.size ≤ k ∧ (Value.slice Ao rs.length co).ownBlock ≠ some k) ∧ k < wi.heap.size → w.heap.size ≤ k ∧ v55.ownBlock ≠ some k := fun k hk => ⟨hk.1.1, fun e => by
              rcases hv55 k e with h | h
              · exact hk.1.2 h
              · omega⟩
            have hcont : decide ((0 : Int) < (rs.length : Int)) = decide (dn ≠ []) := by
              refine decide_eq_decide.2 ⟨fun h e => ?_, fun h => ?_⟩
              · have h0 : rs.length = 0 := by rw [hrd, e]; rfl
                omega
              · have := List.length_pos_iff.2 h; omega
            refine ⟨e1.trans hw'.ext (fun x hx hlt => absurd (fresh x (by simpa using hx)) (by omega)), ?_, ?_, ?_, ?_, ?_, ?_, ?_⟩
            · intro k r row hk hrow
              by_cases hkl : k < rs.length
              · rw [List.getElem?_append_left hkl] at hk
                rw [List.getElem?_append_left (by omega)] at hrow
                exact ((nest k r row hk hrow).strong (by decide)).ext hw'.ext (fun k hk hm => hk.1.2 (by simpa using hm)) |>.weak havoid
              · rw [List.getElem?_append_right (by omega)] at hk hrow
                have hk0 : k - rs.length = 0 := by
                  have := (List.getElem?_eq_some_iff.1 hk).1
                  simp at this
                  omega
                rw [hk0] at hk
                rw [show k - dn.length = 0 by omega] at hrow
                simp only [List.getElem?_cons_zero, Option.some.injEq] at hk hrow
                subst hk; subst hrow
                have hrl2 : (rowOf left cols).length = cols := by
                  unfold rowOf
                  split <;> simp [List.length_take] <;> omega
                obtain ⟨A1, c1, he1, hrd1⟩ := Rd.of_own (E := ECell) (hw'.has Has.head) hrl2
                cases he1
                refine hrd1.weak (fun k hk => ?_)
                have hkg : k = g := by simpa [Value.ownBlock] using hk.symm
                subst hkg
                refine ⟨Nat.le_trans e1.size hgl, fun e => ?_⟩
                have hnd := hw'.nodup
                rw [feet_cons, List.nodup_append] at hnd
                have e' : (own 31 2 v55 (rs.length + 1) (ERow.all rs ++ RowV.enc ⟨some ⟨k, 0, none⟩, cols, cols, decide ((0 : Int) < (rs.length : Int))⟩)).foot = [k] := by show v55.ownBlock.toList = [k]; rw [e]; rfl
                exact hnd.2.2 k (List.mem_singleton.2 rfl) k (by show k ∈ v55.ownBlock.toList ++ []; rw [e]; simp) rfl
            · simp only [List.map_append, conts, List.map_cons, List.map_nil, hcont]
            · exact ((hcutB.strong (by decide)).ext hw'.ext (fun k hk hm => hk.1.2 (by simpa using hm))).weak havoid
            · intro k hk
              rcases hv55 k hk with h | h
              · exact fresh k h
              · exact Nat.le_trans e1.size h.1
            · intro h
              have hrne : restOf left cols ≠ [] := by
                rcases h with h | h
                · simp at h
                · exact h
              have hlne : left ≠ [] := fun e => hrne (by rw [restOf, e]; simp)
              have := htp hlne
              show (restOf left cols).length < f
              omega
            · show splitF l cols = (dn ++ [(rowOf left cols, decide (dn ≠ []))]) ++ (if dn ++ [(rowOf left cols, decide (dn ≠ []))] = [] ∨ restOf left cols ≠ [] then splitAux f (restOf left cols) cols (decide (dn ++ [(rowOf left cols, decide (dn ≠ []))] ≠ [])) else [])
              rw [spec, splitAux, List.append_assoc]
              by_cases hre : restOf left cols = [] <;> simp [hre]
            · show (dn ++ [(rowOf left cols, decide (dn ≠ []))]).length + (restOf left cols).length ≤ l.length + 1
              rw [List.length_append, List.length_singleton, hrl]
              by_cases hlne : left = []
              · rcases hcond with h | h
                · subst h; subst hlne; simp
                · exact absurd hlne h
              · have := htp hlne
                omega
          · show (if dn ++ [(rowOf left cols, decide (dn ≠ []))] = [] then l.length + 1 else (restOf left cols).length) < (if dn = [] then l.length + 1 else left.length)
            rw [if_neg (by simp), hrl]
            by_cases hlne : left = []
            · rcases hcond with h | h
              · rw [if_pos h, hlne]; simp
              · exact absurd hlne h
            · have := htp hlne
              split <;> omega
          · have := hw'.only (Has.tail Has.head) (own_nodup _ _ _ _ _)
            show SH w' v55.ownBlock.toList [own 31 2 v55 (rs ++ [_]).length (ERow.all (rs ++ [_]))] w'
            rw [List.length_append, Enc.all_snoc]
            exact this
      · skip
        refine CW.exit (EX.seqE (EX.lpE (EX.bkE (EX.seq (CW.seq (CW.region ?_))))))
        refine RW.move rfl rfl ?_
        refine RW.assign rfl rfl ?_
        refine RW.nil (EX.seq (CW.ret ?_))
        refine EX.fin1 Try.results17 rfl (fun wz hw => ?_)
        -- mq: done
        have hdn : dn ≠ [] ∧ left = [] := by
          simp only [Bool.or_eq_false_iff, decide_eq_false_iff_not] at hgo
          exact ⟨fun e => hgo.1 (by rw [hrd, e]; rfl), List.eq_nil_of_length_eq_zero (by omega)⟩
        have hnc : ¬ (dn = [] ∨ left ≠ []) := by simp [hdn.1, hdn.2]
        rw [if_neg hnc, List.append_nil] at spec
        obtain ⟨A1, c1, he1, hrd1⟩ := Rd.of_own (E := ERow) (hw.has Has.head) rfl
        cases he1
        refine ⟨_, _, _, rfl, e1.trans hw.ext (fun x hx hlt => absurd (fresh x (by simpa using hx)) (by omega)), ⟨rs, hrd1.weak (fun k hk => fresh k hk), ?_, fun k r row hk hrow => ?_⟩⟩
        · rw [spec]; exact conts
        · rw [spec] at hrow
          exact ((nest k r row hk hrow).ext hw.ext (fun k hk hm => hk.2 (by simpa using hm))).weak (fun k hk => hk.1)
end Go.Proofs.Ytjmmikdbhhomiaa.Mq
