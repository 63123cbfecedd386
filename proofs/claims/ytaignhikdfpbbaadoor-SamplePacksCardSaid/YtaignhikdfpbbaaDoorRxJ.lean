/- More moves in a region that draws: what is not wanted, literals, appends. -/
import Derived.Test.YtaignhikdfpbbaaDoorRxI
namespace Go.Rx
open Go.RowKit
section
variable {P : Program} {ops : Array Oper} {Q : Exit → Act → World → Prop} {S : World → Prop} {T : List Nat}
variable {st : List Nat} {i : Nat} {r : List Nat} {a : Act} {w w' : World} {o : Oper} {m : Nat} {env : Env} {v u : Value} {ty t : TypeId} {pos : String} {af : Array Edge} {x y : Operand} {dst : Option Tmp} {g : Option (Nat × Bool)}

/-- One that is not steady, under a guard that says no. -/
theorem cnoU (ha : Has m env a) {d j s : Nat} {b want : Bool} (hi : ops[i]? = some o) (hc : st.contains i = false) (hg : o.guard = some (j, want)) (hj : (ops[j]?).bind (·.dst) = some s) (hs : look env s = some (.bool b)) (hne : b = !want) (hd : o.dst = some d) (hn : Nat.blt d m = true) (hS : S w)
    (k : ∀ a', Has m ((d, undef) :: env) a' → wpC P ops Q S T st r a' w) : wpC P ops Q S T st (i :: r) a w := by
  have hy := yielded_of (ops := ops) ha hj hs
  refine ⟨o, hi, ?_⟩
  rw [if_neg (by rw [hc]; simp)]
  unfold wpOp
  simp only [hi]
  rw [if_neg (by simp [Region.wanted, hg, hy, hne])]
  refine ⟨S, fun _ h => h, fun _ => hS, ?_⟩
  rw [hd]
  exact k _ (ha.put hn undef)
/-- One that changes the world, under a guard that says yes; its fact is taken into S. -/
theorem cwgx (ha : Has m env a) {d j s : Nat} {want : Bool} (hi : ops[i]? = some o) (hc : st.contains i = false) (hrun : (execOp a.eval o).run P w = .ok (.value v) w') (hg : o.guard = some (j, want)) (hj : (ops[j]?).bind (·.dst) = some s) (hs : look env s = some (.bool want)) (hd : o.dst = some d) (hn : Nat.blt d m = true)
    (k : ∃ S' : World → Prop, (∀ w, S' w → S w) ∧ (T.contains i = false → S' w') ∧ ∀ a', Has m ((d, v) :: env) a' → wpC P ops Q S' T st r a' w') : wpC P ops Q S T st (i :: r) a w := by
  refine ⟨o, hi, ?_⟩
  rw [if_neg (by rw [hc]; simp)]
  unfold wpOp
  simp only [hi]
  rw [if_pos (guard_yes ha hg hj hs)]
  refine .inl ?_
  unfold Oper.wp
  rw [hrun, Oper.upon_value, hd]
  obtain ⟨S', hle, hS, k'⟩ := k
  exact ⟨S', hle, hS, k' _ (ha.put hn v)⟩
/-- What a literal of a slice does. -/
theorem r_buildS (ha : Has m env a) {e k : Nat} {parts : List (Nat × Operand)} (vs : List (Nat × Value)) (C : List Value) (hp : evp env parts = some vs) (hT : ∀ w, (underlying t).run P w = .ok (.slice e) w) (hsz : ∀ w, (sizeOf e).run P w = .ok 1 w) {z : Value} (hz : ∀ w, (zeroValue e).run P w = .ok z w) (hzc : z.cells = #[z]) (hk0 : Nat.blt 0 k = true) (hk : Nat.ble k 16777216 = true)
    (hf : Instr.fill (fun i => some (i * 1, 1)) (List.replicate k z).toArray vs = some C.toArray) :
    ∃ b w', (execOp a.eval ⟨dst, .buildSlice t k parts.toArray, ty, pos, af, g⟩).run P w = .ok (.value (.slice (some ⟨b, 0, none⟩) k k)) w' ∧ w.grownBy w' none ∧ w'.heap[b]? = some (.cells C.toArray e (0, 0)) ∧ w.heap.size ≤ b ∧ b < w'.heap.size := by
  have h := ha.evp parts vs hp
  have hr := run_buildSlice (P := P) (w := w) (parts := vs.toArray) (C := C) hT hsz hz hzc (by simpa [Nat.blt_eq] using hk0) (by simpa [Nat.ble_eq] using hk) (by simpa using hf)
  have hrun : (execOp a.eval ⟨dst, .buildSlice t k parts.toArray, ty, pos, af, g⟩).run P w = .ok (.value (.slice (some ⟨w.heap.size, 0, none⟩) k k)) (w.alloc (.cells C.toArray e)) := by
    have hm : (parts.toArray.map fun p => (p.1, a.eval p.2)) = vs.toArray := by rw [List.map_toArray, h]
    simp only [execOp, hm, Sem.run_bind, hr, Result.andThen_ok]; rfl
  exact ⟨_, _, hrun, grown_alloc w _, heap_alloc_new w _, Nat.le_refl _, by simp⟩
end
end Go.Rx
