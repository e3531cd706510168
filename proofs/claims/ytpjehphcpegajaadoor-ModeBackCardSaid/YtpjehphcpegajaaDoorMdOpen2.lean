/-
  marqueelaw12.ModeBack's laid tables: the two error values apart, as ModePlays's.
-/
import Derived.Test.YtpjehphcpegajaaDoorMdOpen
import Derived.Test.YtpjehphcpegajaaDoorMdB
import Derived.LaidSub
namespace Go.Proofs.YtpjehphcpegajaaDoor.Mq
open Go Go.RowKit Go.ChangeShapes Go.WideShapes Go.ChangeAt Go.Deep Go.Proofs

theorem gl_ofB {W : World} (h : laidMetH Tryd.prog Rows.modeBackRow.laid W) : Gl W := by
  rw [MakeChecks.laidMetH_plain _ _ _ (by kernel_rfl)] at h
  have h2 := laidMet.tail (laidMet.tail h)
  rw [show (Rows.laid_internal_strconv_uint64pow10 : DataW Unit) = Lib.tabData .u64 Lib.pow10Tab from pow10_data] at h2
  exact Lib.tabIs_of_head (g := lays171_ren.g 17) (n := 20) (t := 87) (e := 67) (by kernel_rfl) (by kernel_rfl) (by kernel_rfl) (by kernel_rfl) (by kernel_rfl) (by kernel_rfl) h2
end Go.Proofs.YtpjehphcpegajaaDoor.Mq
