/- chapter 15: the variables, and the arguments, opened -/
import Derived.Test.YtjplfonmdjnplaaDoorRp4
import Derived.Test.YtjplfonmdjnplaaDoorOpn
import Derived.Test.YtjplfonmdjnplaaDoorRows
import Derived.Lib.LaidTab
import Derived.Stop.LaidErr
import Derived.MakeChecks
namespace Go.Proofs.YtjplfonmdjnplaaDoor.Mq
open Go Go.RowKit Go.Proofs Go.ChangeShapes Go.WideShapes Go.Deep

theorem pow10_data {H : Type} : (Rows.laid_internal_strconv_uint64pow10 : DataW H) = Lib.tabData .u64 Lib.pow10Tab := by kernel_rfl
theorem gl_of {W : World} (h : laidMetH Tryd.prog Rows.replyPlacesRow.laid W) : Gl W := by
  rw [MakeChecks.laidMetH_plain _ _ _ (by kernel_rfl)] at h
  have h2 := laidMet.tail (laidMet.tail h)
  rw [show (Rows.laid_internal_strconv_uint64pow10 : DataW Unit) = Lib.tabData .u64 Lib.pow10Tab from pow10_data] at h2
  exact Lib.tabIs_of_head (g := lays171_ren.g 17) (n := 20) (t := 96) (e := 86) (by kernel_rfl) (by kernel_rfl) (by kernel_rfl) (by kernel_rfl) (by kernel_rfl) (by kernel_rfl) h2
section
variable {H : Type} {enc : TypeId × Value → H} {w : World} {base : Nat} {spare : Nat → Bool} {held : Bool}
theorem wf64 {n : Int} (h : (Lit.int .i64 n).wf = true) : -9223372036854775808 ≤ n ∧ n ≤ 9223372036854775807 := by
  simpa [Lit.wf, IntKind.min, IntKind.max, IntKind.signed, IntKind.bits] using h
theorem u16_of {a : Int} (h : (Lit.int .u16 a).wf = true) : ∃ m : Nat, a = m ∧ m < 65536 := by
  have h : 0 ≤ a ∧ a ≤ 65535 := by simpa [Lit.wf, IntKind.min, IntKind.max, IntKind.signed, IntKind.bits] using h
  exact ⟨a.toNat, by omega, by omega⟩
theorem u16x2_of {P : Program} {cs : List Value} (h : Fits enc P w base spare held [.int .u16, .int .u16] cs) : ∃ a : Nat × Nat, [Value.int .u16 (a.1 : Int), .int .u16 (a.2 : Int)] = cs ∧ a.1 < 65536 ∧ a.2 < 65536 := by
  obtain ⟨_, _, rfl, ⟨b, rfl, h1⟩, h2⟩ := h.cons
  obtain ⟨_, _, rfl, ⟨r, rfl, h3⟩, h4⟩ := h2.cons
  obtain rfl := h4.nil'
  obtain ⟨m, rfl, hm⟩ := u16_of h1
  obtain ⟨k, rfl, hk⟩ := u16_of h3
  exact ⟨(m, k), rfl, hm, hk⟩
end
end Go.Proofs.YtjplfonmdjnplaaDoor.Mq
