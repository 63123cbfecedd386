/- More operations: array literals with parts, comparison of truths. -/
import Derived.Test.YtaignhikdfpbbaaDoorRxF
namespace Go.Rx
open Go.RowKit Go.Instr

/-- What a package-level variable's block holds. -/
def GlobAt (w : World) (g : Nat) (C : List Value) : Prop := ∃ t f, w.heap[g]? = some (.cells C.toArray t f)
theorem cell_glob {w : World} {g o : Nat} {C : List Value} {v : Value} (h : GlobAt w g C) (hc : C[o]? = some v) : w.cell? ⟨g, o, none⟩ = some v := by
  obtain ⟨t, f, h⟩ := h; exact cell_of h hc
theorem GlobAt.keep {w0 w : World} {g : Nat} {C : List Value} (h : GlobAt w0 g C) (hb : Below w0.heap.size w0 w) : GlobAt w g C := by
  obtain ⟨t, f, h⟩ := h; exact ⟨t, f, by rw [hb.block _ (lt_of_block h)]; exact h⟩

section
variable {P : Program} {n : Nat} {env : Env} {a : Act} {w w' : World} {dst : Option Tmp} {ty : TypeId} {pos : String} {af : Array Edge} {g : Option (Nat × Bool)} {x y z : Operand} {t t' : TypeId} {v : Value}

theorem r_build (ha : Has n env a) {Z C : List Value} {len e : Nat} (parts : List (Nat × Operand)) (vs : List (Nat × Value)) (hp : evp env parts = some vs) (hz : ∀ w, (zeroValue t).run P w = .ok (.agg Z.toArray) w) (hT : ∀ w, (underlying t).run P w = .ok (.array len e) w) {sz : Nat} (hsz : ∀ w, (sizeOf e).run P w = .ok sz w)
    (hf : Instr.fill (fun i => some (i * sz, sz)) Z.toArray vs = some C.toArray) :
    (execOp a.eval ⟨dst, .build t parts.toArray, ty, pos, af, g⟩).run P w = .ok (.value (.agg C.toArray)) w := by
  have h := ha.evp parts vs hp
  have hm : (parts.toArray.map fun p => (p.1, a.eval p.2)) = vs.toArray := by rw [List.map_toArray, h]
  simp [execOp, hm, Instr.build, hz, hT, hsz, hf, Value.cells]

theorem r_eqlB (ha : Has n env a) (p q c : Bool) (hx : ev env x = some (.bool p)) (hy : ev env y = some (.bool q)) (hT : ∀ w, (underlying t).run P w = .ok .bool w) (hc : (p == q) = c) :
    (execOp a.eval ⟨dst, .binOp .eql t x y t', ty, pos, af, g⟩).run P w = .ok (.value (.bool c)) w := by
  subst hc
  have h : ∀ d, (Op.equalIn (d + 1) t (.bool p) (.bool q)).run P w = .ok (p == q) w := by
    intro d; simp [Op.equalIn, hT]
  have h := h 9999
  simp only [execOp, ha.ev hx, ha.ev hy, eqGuard, binOp, Op.equal, Op.maxDepth, Sem.run_bind, Sem.run_pure]
  have h : (Op.equalIn 10000 t (.bool p) (.bool q)).run P w = .ok (p == q) w := h
  simp [h]
end
end Go.Rx
