/- tape: the variables, and the arguments, opened -/
import Derived.Test.YtnpafpnameleaaaDoorTp7
import Derived.Test.YtnpafpnameleaaaDoorShp
import Derived.Test.YtnpafpnameleaaaDoorOpn
import Derived.Test.YtnpafpnameleaaaDoorRows
import Derived.Lib.LaidTab
import Derived.Stop.LaidErr
import Derived.MakeChecks
import Derived.Look8
namespace Go.Proofs.YtnpafpnameleaaaDoor.Mq
open Go Go.RowKit Go.Proofs Go.ChangeShapes Go.WideShapes Go.Deep

theorem pow10_data {H : Type} : (Rows.laid_internal_strconv_uint64pow10 : DataW H) = Lib.tabData .u64 Lib.pow10Tab := by kernel_rfl
theorem star_err : "*" ++ "errors.errorString" = "*errors.errorString" := by decide
theorem row_err (u : TypeId) (h : Tryd.prog.typeName? 3 u = some "*errors.errorString") : u = 128 :=
  typeName_ptr_named (nm := "errors.errorString") (by rw [star_err]; kernel_rfl) (by kernel_rfl) (by decide) u (by rw [star_err]; exact h)
theorem gt_of {W : World} (h : laidMetH Tryd.prog Rows.tapeLinesRow.laid W) (hsh : W.ShapedOpen Tryd.prog) : GT W := by
  rw [MakeChecks.laidMetH_plain _ _ _ (by kernel_rfl)] at h
  have h2 := laidMet.tail (laidMet.tail h)
  have h4 := laidMet.tail (laidMet.tail h2)
  have h5 := laidMet.tail h4
  rw [show (Rows.laid_internal_strconv_uint64pow10 : DataW Unit) = Lib.tabData .u64 Lib.pow10Tab from pow10_data] at h2
  obtain ⟨a1, s1, hv1, _⟩ := laid_sentinel (g := lays172C_ren.g 16) (ti := 70) (tp := 128) (te := 130) (ts := 9) h4 (by kernel_rfl) (by kernel_rfl) Tryd.underlying70 row_err Tryd.underlying128 Tryd.underlying130 rfl rfl Tryd.underlying9 (by kernel_rfl) (by kernel_rfl)
  obtain ⟨a2, s2, hv2, _⟩ := laid_sentinel (g := lays172C_ren.g 15) (ti := 70) (tp := 128) (te := 130) (ts := 9) h5 (by kernel_rfl) (by kernel_rfl) Tryd.underlying70 row_err Tryd.underlying128 Tryd.underlying130 rfl rfl Tryd.underlying9 (by kernel_rfl) (by kernel_rfl)
  refine ⟨Lib.tabIs_of_head (g := lays171_ren.g 17) (n := 20) (t := 102) (e := 81) (by kernel_rfl) (by kernel_rfl) (by kernel_rfl) (by kernel_rfl) (by kernel_rfl) (by kernel_rfl) h2, ⟨⟨128, .pointer (some a2), ?_⟩, ⟨128, .pointer (some a1), ?_⟩⟩, gm_of hsh⟩
  · have h0 := World.var?_cell lays172C.m15 hv2 0
    simpa using h0
  · have h0 := World.var?_cell lays172C.m16 hv1 0
    simpa using h0
section
variable {H : Type} {enc : TypeId × Value → H} {w : World} {base : Nat} {spare : Nat → Bool} {held : Bool}
theorem wf64 {n : Int} (h : (Lit.int .i64 n).wf = true) : In64 n := by
  unfold In64
  simpa [Lit.wf, IntKind.min, IntKind.max, IntKind.signed, IntKind.bits] using h
def StV.Wf (x : StV) : Prop := In64 x.k ∧ In64 x.a ∧ In64 x.b
def stShape : List Lf := [.int .i64, .int .i64, .int .i64, .str]
theorem st_of {P : Program} {cs : List Value} (h : Fits enc P w base spare held stShape cs) : ∃ a : StV, ESt.enc a = cs ∧ a.Wf := by
  obtain ⟨_, _, rfl, ⟨x0, rfl, k0⟩, h0⟩ := h.cons
  obtain ⟨_, _, rfl, ⟨x1, rfl, k1⟩, h1⟩ := h0.cons
  obtain ⟨_, _, rfl, ⟨x2, rfl, k2⟩, h2⟩ := h1.cons
  obtain ⟨_, _, rfl, ⟨x3, rfl, _⟩, h3⟩ := h2.cons
  obtain rfl := h3.nil'
  exact ⟨⟨x0, x1, x2, x3.data.toList⟩, rfl, wf64 k0, wf64 k1, wf64 k2⟩
end
theorem lines_p (w : World) (hg : GT w) (x : StV) (h : x.Wf) : Calls Tryd.prog 3 #[.agg x.cells.toArray] w (fun e w' => e = .returned (.bool true) ∧ Ext [] w w') := by
  obtain ⟨k, a, b, d⟩ := x
  exact lines_c w hg k a b d h.2.1 h.2.2
end Go.Proofs.YtnpafpnameleaaaDoor.Mq
