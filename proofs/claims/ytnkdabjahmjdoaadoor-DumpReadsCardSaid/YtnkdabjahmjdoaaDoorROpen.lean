/- dump: the variables and errors, for the rows that parse -/
import Derived.Test.YtnkdabjahmjdoaaDoorR9
import Derived.Test.YtnkdabjahmjdoaaDoorDOpen
import Derived.Test.YtnkdabjahmjdoaaDoorShp
import Derived.Look8
namespace Go.Proofs.YtnkdabjahmjdoaaDoor.Mq
open Go Go.RowKit Go.Proofs Go.ChangeShapes Go.WideShapes Go.Deep

theorem star_err : "*" ++ "errors.errorString" = "*errors.errorString" := by decide
theorem row_err (u : TypeId) (h : Tryd.prog.typeName? 3 u = some "*errors.errorString") : u = 133 :=
  typeName_ptr_named (nm := "errors.errorString") (by rw [star_err]; kernel_rfl) (by kernel_rfl) (by decide) u (by rw [star_err]; exact h)
theorem gd_of {W : World} (h : laidMetH Tryd.prog Rows.dumpLinesRow.laid W) (hsh : W.ShapedOpen Tryd.prog) : GD W := by
  rw [MakeChecks.laidMetH_plain _ _ _ (by kernel_rfl)] at h
  have h2 := laidMet.tail (laidMet.tail h)
  have h4 := laidMet.tail (laidMet.tail h2)
  have h5 := laidMet.tail h4
  rw [show (Rows.laid_internal_strconv_uint64pow10 : DataW Unit) = Lib.tabData .u64 Lib.pow10Tab from pow10_data] at h2
  obtain ⟨a1, s1, hv1, _⟩ := laid_sentinel (g := lays172C_ren.g 16) (ti := 81) (tp := 133) (te := 135) (ts := 9) h4 (by kernel_rfl) (by kernel_rfl) Tryd.underlying81 row_err Tryd.underlying133 Tryd.underlying135 rfl rfl Tryd.underlying9 (by kernel_rfl) (by kernel_rfl)
  obtain ⟨a2, s2, hv2, _⟩ := laid_sentinel (g := lays172C_ren.g 15) (ti := 81) (tp := 133) (te := 135) (ts := 9) h5 (by kernel_rfl) (by kernel_rfl) Tryd.underlying81 row_err Tryd.underlying133 Tryd.underlying135 rfl rfl Tryd.underlying9 (by kernel_rfl) (by kernel_rfl)
  refine ⟨Lib.tabIs_of_head (g := lays171_ren.g 17) (n := 20) (t := 106) (e := 22) (by kernel_rfl) (by kernel_rfl) (by kernel_rfl) (by kernel_rfl) (by kernel_rfl) (by kernel_rfl) h2, ⟨⟨133, .pointer (some a2), ?_⟩, ⟨133, .pointer (some a1), ?_⟩⟩, gm_of hsh⟩
  · have h0 := World.var?_cell lays172C.m15 hv2 0
    simpa using h0
  · have h0 := World.var?_cell lays172C.m16 hv1 0
    simpa using h0
end Go.Proofs.YtnkdabjahmjdoaaDoor.Mq
