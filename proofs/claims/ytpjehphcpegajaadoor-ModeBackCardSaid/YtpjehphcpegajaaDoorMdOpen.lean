/- chapter 12: the variables, and the arguments, opened -/
import Derived.Test.YtpjehphcpegajaaDoorMdW
import Derived.Test.YtpjehphcpegajaaDoorOpn
import Derived.Test.YtpjehphcpegajaaDoorRows
import Derived.Lib.LaidTab
import Derived.Stop.LaidErr
import Derived.MakeChecks
namespace Go.Proofs.YtpjehphcpegajaaDoor.Mq
open Go Go.RowKit Go.Proofs Go.ChangeShapes Go.WideShapes Go.Deep

theorem pow10_data {H : Type} : (Rows.laid_internal_strconv_uint64pow10 : DataW H) = Lib.tabData .u64 Lib.pow10Tab := by kernel_rfl
theorem gl_of {W : World} (h : laidMetH Tryd.prog Rows.modePlaysRow.laid W) : Gl W := by
  rw [MakeChecks.laidMetH_plain _ _ _ (by kernel_rfl)] at h
  have h2 := laidMet.tail (laidMet.tail h)
  rw [show (Rows.laid_internal_strconv_uint64pow10 : DataW Unit) = Lib.tabData .u64 Lib.pow10Tab from pow10_data] at h2
  exact Lib.tabIs_of_head (g := lays171_ren.g 17) (n := 20) (t := 87) (e := 67) (by kernel_rfl) (by kernel_rfl) (by kernel_rfl) (by kernel_rfl) (by kernel_rfl) (by kernel_rfl) h2
section
variable {H : Type} {enc : TypeId × Value → H} {w : World} {base : Nat} {spare : Nat → Bool} {held : Bool}
theorem wf64 {n : Int} (h : (Lit.int .i64 n).wf = true) : -9223372036854775808 ≤ n ∧ n ≤ 9223372036854775807 := by
  simpa [Lit.wf, IntKind.min, IntKind.max, IntKind.signed, IntKind.bits] using h
theorem shpOp : shp Tryd.prog 4 33 = some [.bool, .int .i64, .bool] := by kernel_rfl
theorem op_of {P : Program} {cs : List Value} (h : Fits enc P w base spare held [.bool, .int .i64, .bool] cs) : ∃ a : OpV, EOp.enc a = cs ∧ (-9223372036854775808 ≤ a.n ∧ a.n ≤ 9223372036854775807) := by
  obtain ⟨_, _, rfl, ⟨b, rfl⟩, h1⟩ := h.cons
  obtain ⟨_, _, rfl, ⟨r, rfl, h2⟩, h3⟩ := h1.cons
  obtain ⟨_, _, rfl, ⟨c, rfl⟩, h4⟩ := h3.cons
  obtain rfl := h4.nil'
  exact ⟨⟨b, r, c⟩, rfl, wf64 h2⟩
theorem openOps {fuel : Nat} {A : Option Addr} {n c : Nat} {x : DataW H × List MemPlace} (h : DataW.trod enc Tryd.prog w base spare held fuel 22 [.slice A n c] = some x) (hw : Wt Tryd.prog 22 x.1) :
    ∃ l, Rd EOp w (fun k => k < w.heap.size) A n c l ∧ n ≤ reachBytes ∧ ∀ a ∈ l, -9223372036854775808 ≤ a.n ∧ a.n ≤ 9223372036854775807 := by
  obtain ⟨l, h1, h3, h2⟩ := open_rd (E := EOp) (G := fun a => -9223372036854775808 ≤ a.n ∧ a.n ≤ 9223372036854775807) 4 _ Tryd.underlying22 (by kernel_rfl) (by decide) shpOp (fun cs hc => op_of hc) (of_decide_eq_true (by kernel_rfl)) h hw
  exact ⟨l, h1, h2, h3⟩
end
end Go.Proofs.YtpjehphcpegajaaDoor.Mq
