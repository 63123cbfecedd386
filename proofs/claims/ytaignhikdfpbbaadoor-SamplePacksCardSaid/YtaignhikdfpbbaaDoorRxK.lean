/- A slice of bytes turned into its own type: the run-time's mark behind its row. -/
import Derived.Test.YtaignhikdfpbbaaDoorRxJ
namespace Go.Rx
open Go.RowKit
section
variable {P : Program} {w w' : World} {a : Act} {m : Nat} {env : Env} {v u : Value} {ty t : TypeId} {pos : String} {af : Array Edge} {x y : Operand} {dst : Option Tmp} {g : Option (Nat × Bool)}
theorem r_mark (ha : Has m env a) {e b k c bt : Nat} {C : List Value} (hs : P.underlying t = some (.slice e)) (he : P.underlying e = some (.int .u8)) (hx : ev env x = some (.slice (some ⟨b, 0, none⟩) k c)) (hb : w.heap[b]? = some (.cells C.toArray bt (0, 0))) :
    ∃ w', (execOp a.eval ⟨dst, .convert t t x, ty, pos, af, g⟩).run P w = .ok (.value (.slice (some ⟨b, 0, none⟩) k c)) w' ∧ w.grownBy w' (some b) ∧ w'.heap[b]? = some (.cells C.toArray bt (C.length, C.length + 1)) := by
  have hsh : w.shape? b = some (bt, C.length) := by unfold World.shape?; rw [hb]; simp
  refine ⟨w.freeze ⟨b, C.length, none⟩ 1, ?_, ?_, ?_⟩
  · simp [execOp, ha.ev hx, convert, run_underlying hs, run_underlying he, markStringish, hsh]
  · unfold World.freeze
    rw [if_neg (by decide)]
    refine ⟨rfl, rfl, rfl, by simp, fun j hj hne => ?_⟩
    show (w.heap.modify b _)[j]? = _
    rw [Array.getElem?_modify, if_neg (fun h => hne (by rw [h]))]
  · unfold World.freeze
    rw [if_neg (by decide)]
    show (w.heap.modify b _)[b]? = _
    rw [Array.getElem?_modify, if_pos rfl, hb]
    rfl
end
end Go.Rx
