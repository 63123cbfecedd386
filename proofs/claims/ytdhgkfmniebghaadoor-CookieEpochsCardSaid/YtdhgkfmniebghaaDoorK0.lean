/- The seat's program: what its package-level variables hold. -/
import Derived.Test.YtdhgkfmniebghaaDoorRows
import Derived.Test.YtdhgkfmniebghaaDoorRxH
import Derived.Test.YtdhgkfmniebghaaDoorPk
namespace Go.Proofs.YtdhgkfmniebghaaDoor
open Go.RowKit Go.Rx
theorem mixed : Tryd.prog.follows .mixedOrders = true := by kernel_rfl
def Glob (w : World) : Prop := GlobAt w 0 (consts.map e64) ∧ GlobAt w 1 (turns.map en)
theorem glob_keep {w0 w : World} (h : Glob w0) (hb : Below w0.heap.size w0 w) : Glob w := ⟨(h.1).keep hb, (h.2).keep hb⟩
theorem glob_0 {w0 w : World} (h : Glob w0) (hb : Below w0.heap.size w0 w) : GlobAt w 0 (consts.map e64) := (h.1).keep hb
theorem glob_1 {w0 w : World} (h : Glob w0) (hb : Below w0.heap.size w0 w) : GlobAt w 1 (turns.map en) := (h.2).keep hb
end Go.Proofs.YtdhgkfmniebghaaDoor
