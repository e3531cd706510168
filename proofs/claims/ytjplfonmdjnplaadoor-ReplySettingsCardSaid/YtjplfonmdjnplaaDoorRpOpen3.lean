/- chapter 15, ReplySettings: the variables, and the arguments, opened -/
import Derived.Test.YtjplfonmdjnplaaDoorRpS
import Derived.Test.YtjplfonmdjnplaaDoorOpn
import Derived.Test.YtjplfonmdjnplaaDoorRows
import Derived.Lib.LaidTab
import Derived.Stop.LaidErr
import Derived.MakeChecks
namespace Go.Proofs.YtjplfonmdjnplaaDoor.Mq
open Go Go.RowKit Go.Proofs Go.ChangeShapes Go.WideShapes Go.Deep

theorem pow10_data {H : Type} : (Rows.laid_internal_strconv_uint64pow10 : DataW H) = Lib.tabData .u64 Lib.pow10Tab := by kernel_rfl
theorem gl_of {W : World} (h : laidMetH Tryd.prog Rows.replySettingsRow.laid W) : Gl W := by
  rw [MakeChecks.laidMetH_plain _ _ _ (by kernel_rfl)] at h
  have h2 := laidMet.tail (laidMet.tail h)
  rw [show (Rows.laid_internal_strconv_uint64pow10 : DataW Unit) = Lib.tabData .u64 Lib.pow10Tab from pow10_data] at h2
  exact Lib.tabIs_of_head (g := lays171_ren.g 17) (n := 20) (t := 96) (e := 86) (by kernel_rfl) (by kernel_rfl) (by kernel_rfl) (by kernel_rfl) (by kernel_rfl) (by kernel_rfl) h2
section
variable {H : Type} {enc : TypeId × Value → H} {w : World} {base : Nat} {spare : Nat → Bool} {held : Bool}
theorem wf64 {n : Int} (h : (Lit.int .i64 n).wf = true) : -9223372036854775808 ≤ n ∧ n ≤ 9223372036854775807 := by
  simpa [Lit.wf, IntKind.min, IntKind.max, IntKind.signed, IntKind.bits] using h
theorem i64x2_of {P : Program} {cs : List Value} (h : Fits enc P w base spare held [.int .i64, .int .i64] cs) : ∃ a : Int × Int, [Value.int .i64 a.1, .int .i64 a.2] = cs ∧ True := by
  obtain ⟨_, _, rfl, ⟨b, rfl, h1⟩, h2⟩ := h.cons
  obtain ⟨_, _, rfl, ⟨r, rfl, h3⟩, h4⟩ := h2.cons
  obtain rfl := h4.nil'
  exact ⟨(b, r), rfl, trivial⟩
theorem at_of {P : Program} {cs : List Value} (h : Fits enc P w base spare held [.int .i64, .int .i64, .int .i64, .int .i64, .int .i64] cs) : ∃ a : AtV, EAt.enc a = cs ∧ (-9223372036854775808 ≤ a.fl ∧ a.fl ≤ 9223372036854775807) := by
  obtain ⟨_, _, rfl, ⟨r1, rfl, _⟩, h1⟩ := h.cons
  obtain ⟨_, _, rfl, ⟨r2, rfl, _⟩, h2⟩ := h1.cons
  obtain ⟨_, _, rfl, ⟨r3, rfl, _⟩, h3⟩ := h2.cons
  obtain ⟨_, _, rfl, ⟨r4, rfl, _⟩, h4⟩ := h3.cons
  obtain ⟨_, _, rfl, ⟨r5, rfl, hw5⟩, h5⟩ := h4.cons
  obtain rfl := h5.nil'
  exact ⟨⟨r1, r2, r3, r4, r5⟩, rfl, wf64 hw5⟩
end
end Go.Proofs.YtjplfonmdjnplaaDoor.Mq
