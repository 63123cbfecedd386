/- The seat's program: what its package-level variables hold (zq's powers). -/
import Derived.Test.YtdiddkcoihpnhaaDoorRows
import Derived.Test.YtdiddkcoihpnhaaDoorRxH
import Derived.Test.YtdiddkcoihpnhaaDoorZk
namespace Go.Proofs.YtdiddkcoihpnhaaDoor
open Go.RowKit Go.Rx

theorem mixed : Tryd.prog.follows .mixedOrders = true := by kernel_rfl

def Glob (w : World) : Prop := GlobAt w 0 (powers.map en)
theorem glob_keep {w0 w : World} (h : Glob w0) (hb : Below w0.heap.size w0 w) : Glob w := h.keep hb
theorem glob_0 {w0 w : World} (h : Glob w0) (hb : Below w0.heap.size w0 w) : GlobAt w 0 (powers.map en) := h.keep hb
end Go.Proofs.YtdiddkcoihpnhaaDoor
