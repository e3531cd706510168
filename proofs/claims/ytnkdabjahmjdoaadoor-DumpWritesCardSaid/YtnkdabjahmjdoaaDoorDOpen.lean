/- dump: the variables, and the arguments, opened (printed by genopen.py) -/
import Derived.Test.YtnkdabjahmjdoaaDoorD6
import Derived.Test.YtnkdabjahmjdoaaDoorOpn
import Derived.Test.YtnkdabjahmjdoaaDoorRows
import Derived.Lib.LaidTab
import Derived.Stop.LaidErr
import Derived.MakeChecks
namespace Go.Proofs.YtnkdabjahmjdoaaDoor.Mq
open Go Go.RowKit Go.Proofs Go.ChangeShapes Go.WideShapes Go.Deep

theorem pow10_data {H : Type} : (Rows.laid_internal_strconv_uint64pow10 : DataW H) = Lib.tabData .u64 Lib.pow10Tab := by kernel_rfl
theorem gl_of {W : World} (h : laidMetH Tryd.prog Rows.dumpBriefsRow.laid W) : Gl W := by
  rw [MakeChecks.laidMetH_plain _ _ _ (by kernel_rfl)] at h
  have h2 := laidMet.tail (laidMet.tail h)
  rw [show (Rows.laid_internal_strconv_uint64pow10 : DataW Unit) = Lib.tabData .u64 Lib.pow10Tab from pow10_data] at h2
  exact Lib.tabIs_of_head (g := lays171_ren.g 17) (n := 20) (t := 106) (e := 22) (by kernel_rfl) (by kernel_rfl) (by kernel_rfl) (by kernel_rfl) (by kernel_rfl) (by kernel_rfl) h2
section
variable {H : Type} {enc : TypeId × Value → H} {w : World} {base : Nat} {spare : Nat → Bool} {held : Bool}
theorem wf64 {n : Int} (h : (Lit.int .i64 n).wf = true) : In64 n := by
  unfold In64
  simpa [Lit.wf, IntKind.min, IntKind.max, IntKind.signed, IntKind.bits] using h
theorem wfU {n : Int} (h : (Lit.int .u64 n).wf = true) : 0 ≤ n ∧ n < 18446744073709551616 := by
  have h : 0 ≤ n ∧ n ≤ 18446744073709551615 := by simpa [Lit.wf, IntKind.min, IntKind.max, IntKind.signed, IntKind.bits] using h
  omega
def blkShape : List Lf := [.int .u64, .int .i64, .int .i64, .int .i64, .int .i64, .int .i64, .int .i64, .int .i64, .int .i64, .int .i64, .int .i64, .int .i64, .int .i64, .bool, .bool, .str, .str]
theorem blk_of {P : Program} {cs : List Value} (h : Fits enc P w base spare held blkShape cs) : ∃ a : BlkV, EBlk.enc a = cs ∧ a.Wf := by
  obtain ⟨_, _, rfl, ⟨x0, rfl, k0⟩, h0⟩ := h.cons
  obtain ⟨_, _, rfl, ⟨x1, rfl, k1⟩, h1⟩ := h0.cons
  obtain ⟨_, _, rfl, ⟨x2, rfl, k2⟩, h2⟩ := h1.cons
  obtain ⟨_, _, rfl, ⟨x3, rfl, k3⟩, h3⟩ := h2.cons
  obtain ⟨_, _, rfl, ⟨x4, rfl, k4⟩, h4⟩ := h3.cons
  obtain ⟨_, _, rfl, ⟨x5, rfl, k5⟩, h5⟩ := h4.cons
  obtain ⟨_, _, rfl, ⟨x6, rfl, k6⟩, h6⟩ := h5.cons
  obtain ⟨_, _, rfl, ⟨x7, rfl, k7⟩, h7⟩ := h6.cons
  obtain ⟨_, _, rfl, ⟨x8, rfl, k8⟩, h8⟩ := h7.cons
  obtain ⟨_, _, rfl, ⟨x9, rfl, k9⟩, h9⟩ := h8.cons
  obtain ⟨_, _, rfl, ⟨x10, rfl, k10⟩, h10⟩ := h9.cons
  obtain ⟨_, _, rfl, ⟨x11, rfl, k11⟩, h11⟩ := h10.cons
  obtain ⟨_, _, rfl, ⟨x12, rfl, k12⟩, h12⟩ := h11.cons
  obtain ⟨_, _, rfl, ⟨x13, rfl⟩, h13⟩ := h12.cons
  obtain ⟨_, _, rfl, ⟨x14, rfl⟩, h14⟩ := h13.cons
  obtain ⟨_, _, rfl, ⟨x15, rfl, _⟩, h15⟩ := h14.cons
  obtain ⟨_, _, rfl, ⟨x16, rfl, _⟩, h16⟩ := h15.cons
  obtain rfl := h16.nil'
  have hu := wfU k0
  obtain ⟨id, rfl⟩ : ∃ m : Nat, x0 = m := ⟨x0.toNat, by omega⟩
  refine ⟨⟨id, x1, x2, x3, x4, x5, x6, x7, x8, x9, x10, x11, x12, x13, x14, x15.data.toList, x16.data.toList⟩, rfl, ⟨by dsimp only; omega, wf64 k12, fun p hp => ?_⟩⟩
  simp only [BlkV.pos, List.mem_cons, List.not_mem_nil, or_false] at hp
  rcases hp with rfl | rfl | rfl | rfl | rfl
  · exact ⟨wf64 k2, wf64 k3⟩
  · exact ⟨wf64 k4, wf64 k5⟩
  · exact ⟨wf64 k6, wf64 k7⟩
  · exact ⟨wf64 k8, wf64 k9⟩
  · exact ⟨wf64 k10, wf64 k11⟩
end
end Go.Proofs.YtnkdabjahmjdoaaDoor.Mq
