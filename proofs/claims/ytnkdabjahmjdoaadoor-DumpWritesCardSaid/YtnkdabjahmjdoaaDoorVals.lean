/- ARRAYS AS VALUES: a place of one -/
import Derived.Test.YtnkdabjahmjdoaaDoorBits
namespace Go.Proofs.YtnkdabjahmjdoaaDoor.Mq
open Go Go.RowKit
section
variable {P : Program} {n : Nat} {ops : Array Oper} {Q : Post} {rest : List Oper} {l : Fr} {H : World → Prop} {d : Nat} {ty : TypeId} {pos : String} {af : Array Edge} {x i : Operand} {k : IntKind} {j : Int}
theorem RW.ixValS {t e len q : Nat} {z v : Value} {cs : List Value} (ht : P.underlying t = some (.array len e)) (he : ScT P e z) (hd : Nat.blt d n = true) (hx : ev l x = some (.agg cs.toArray)) (hi : ev l i = some (.int k j)) (hj : j = (q : Int)) (hlt : q < len) (hv : cs[q]? = some v)
    (h : RW P n ops Q rest ((d, v) :: l) H) : RW P n ops Q (⟨some d, .index t x i, ty, pos, af, none⟩ :: rest) l H := by
  subst hj
  obtain ⟨dsc, hu, hna⟩ := he.und
  obtain ⟨inf, h1, h2, h3⟩ := he.inf
  refine RW.val _ hd (fun ρ w hρ => ?_) h
  have e1 : (Instr.index t (.agg cs.toArray) (.int k (q : Int))).run P w = .ok v w := by
    simp [Instr.index, asIntOf, run_underlying ht, hlt, run_sizeOf h1, h3, part, run_isAgg hu, hna, hv]
  simp [execOp, hρ x _ hx, hρ i _ hi, e1]
theorem RW.ixValA {t e len q sz : Nat} {z vs cs : List Value} (ht : P.underlying t = some (.array len e)) (he : AgT P e sz z) (hd : Nat.blt d n = true) (hx : ev l x = some (.agg cs.toArray)) (hi : ev l i = some (.int k j)) (hj : j = (q : Int)) (hlt : q < len) (hv : (cs.drop (q * sz)).take sz = vs)
    (h : RW P n ops Q rest ((d, .agg vs.toArray) :: l) H) : RW P n ops Q (⟨some d, .index t x i, ty, pos, af, none⟩ :: rest) l H := by
  subst hj
  obtain ⟨dsc, hu, hna⟩ := he.und
  obtain ⟨inf, h1, h2, h3⟩ := he.inf
  refine RW.val _ hd (fun ρ w hρ => ?_) h
  have e2 : cs.toArray.extract (q * sz) (q * sz + sz) = vs.toArray := by
    rw [← hv]
    simp
  have e1 : (Instr.index t (.agg cs.toArray) (.int k (q : Int))).run P w = .ok (.agg vs.toArray) w := by
    simp [Instr.index, asIntOf, run_underlying ht, hlt, run_sizeOf h1, h3, part, run_isAgg hu, hna, ← e2]
  simp [execOp, hρ x _ hx, hρ i _ hi, e1]
end
end Go.Proofs.YtnkdabjahmjdoaaDoor.Mq
