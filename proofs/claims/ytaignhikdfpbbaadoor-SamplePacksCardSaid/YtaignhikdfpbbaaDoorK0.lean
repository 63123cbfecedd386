/- The seat's program: what its package-level variables hold. -/
import Derived.Test.YtaignhikdfpbbaaDoorRows
import Derived.Test.YtaignhikdfpbbaaDoorRxH
import Derived.Test.YtaignhikdfpbbaaDoorPk
import Derived.Test.YtaignhikdfpbbaaDoorZk
namespace Go.Proofs.YtaignhikdfpbbaaDoor
open Go.RowKit Go.Rx
theorem mixed : Tryd.prog.follows .mixedOrders = true := by kernel_rfl
def Glob (w : World) : Prop := GlobAt w 1 (consts.map e64) ∧ GlobAt w 2 (turns.map en)
theorem glob_keep {w0 w : World} (h : Glob w0) (hb : Below w0.heap.size w0 w) : Glob w := ⟨(h.1).keep hb, (h.2).keep hb⟩
theorem glob_1 {w0 w : World} (h : Glob w0) (hb : Below w0.heap.size w0 w) : GlobAt w 1 (consts.map e64) := (h.1).keep hb
theorem glob_2 {w0 w : World} (h : Glob w0) (hb : Below w0.heap.size w0 w) : GlobAt w 2 (turns.map en) := (h.2).keep hb
def GlobP (w : World) : Prop := GlobAt w 0 (powers.map en)
theorem globP_keep {w0 w : World} (h : GlobP w0) (hb : Below w0.heap.size w0 w) : GlobP w := GlobAt.keep h hb
theorem glob_0 {w0 w : World} (h : GlobP w0) (hb : Below w0.heap.size w0 w) : GlobAt w 0 (powers.map en) := GlobAt.keep h hb
end Go.Proofs.YtaignhikdfpbbaaDoor
