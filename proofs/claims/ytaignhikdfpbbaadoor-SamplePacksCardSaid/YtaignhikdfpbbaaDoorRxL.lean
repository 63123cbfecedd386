/- More of the calculus: 'or' of ints, an array and a number handed back. -/
import Derived.Test.YtaignhikdfpbbaaDoorRxK
import Derived.Laws.ResultCell
namespace Go.Rx
open Go.RowKit
section
variable {P : Program} {n : Nat} {env : Env} {a : Act} {w : World} {dst : Option Tmp} {ty t t' : TypeId} {pos : String} {af : Array Edge} {g : Option (Nat × Bool)} {x y : Operand} {v : Value}
variable {ops : Array Oper} {Q : Exit → Act → World → Prop} {d : Nat} {S : World → Prop} {T : List Nat} {m i : Nat} {st r : List Nat}
/-- New memory in a region that draws. -/
theorem calloc (ha : Has m env a) {t : TypeId} {C : List Value} (hi : ops[i]? = some ⟨some d, .alloc t, ty, pos, af, none⟩) (hc : st.contains i = false) (hz : ∀ w, (zeroValue t).run P w = .ok (.agg C.toArray) w) (hn : Nat.blt d m = true) (hS : ∀ w', w.grownBy w' none → S w')
    (k : ∀ a' w' b, Has m ((d, .pointer (some ⟨b, 0, none⟩)) :: env) a' → w.grownBy w' none → w'.heap[b]? = some (.cells C.toArray t (0, 0)) → w.heap.size ≤ b → b < w'.heap.size → wpC P ops Q S T st r a' w') :
    wpC P ops Q S T st (i :: r) a w :=
  cw ha hi hc (r_alloc hz) rfl rfl hn (fun _ => hS _ (grown_alloc w _)) fun _ ha' => k _ _ _ ha' (grown_alloc w _) (heap_alloc_new w _) (Nat.le_refl _) (by simp)
theorem r_sliceAH (ha : Has n env a) {oh : Option Operand} {len e b : Nat} (hi : Nat) (hT : ∀ w, (underlying t).run P w = .ok (.array len e) w) (hsz : ∀ w, (sizeOf e).run P w = .ok 1 w) (hx : ev env x = some (.pointer (some ⟨b, 0, none⟩))) (hhi : optn env oh len hi) (h2 : hi ≤ len) :
    (execOp a.eval ⟨dst, .slice t x none oh none, ty, pos, af, g⟩).run P w = .ok (.value (.slice (some ⟨b, 0, none⟩) hi len)) w := by
  have hb : (Instr.sliceBounds false len len none (oh.map a.eval) none).run P w = .ok (0, hi, len) w := by
    cases oh with
    | none => simp only [optn] at hhi; subst hhi; simp [Instr.sliceBounds]
    | some q => simp only [optn] at hhi; simp [Instr.sliceBounds, ha.ev hhi, Instr.sliceBound, asIntOf, h2]
  simp [execOp, ha.ev hx, Instr.sliceAt, hT, hsz, Instr.sureAddr, hb, add_zero']
theorem run_neArr {e len : Nat} {k : IntKind} (p q : List Int) (hp : p.length = len) (hq : q.length = len) (hT : ∀ w, (underlying t).run P w = .ok (.array len e) w) (hsz : ∀ w, (sizeOf e).run P w = .ok 1 w) (hE : P.underlying e = some (.int k)) (hagg : ∀ w, (isAgg e).run P w = .ok false w) :
    (binOp .neq t (.agg (p.map (Value.int k)).toArray) (.agg (q.map (Value.int k)).toArray)).run P w = .ok (.bool (decide (p ≠ q))) w := by
  have h := run_equalArr (P := P) (w := w) (d := 9998) p q hp hq hT hsz hE hagg
  simp only [binOp, Op.equal, Op.maxDepth, Sem.run_bind, h, Result.andThen_ok]
  simp
theorem r_neA {α : Type} [DecidableEq α] {f : α → Int} {e len : Nat} {k : IntKind} (hf : ∀ x y : α, f x = f y → x = y) (p q : List α) (ha : Has n env a) (hx : ev env x = some (.agg (p.map fun z => Value.int k (f z)).toArray)) (hy : ev env y = some (.agg (q.map fun z => Value.int k (f z)).toArray)) (hp : p.length = len) (hq : q.length = len)
    (hG : P.eqGuardType P.depth t = false) (hT : ∀ w, (underlying t).run P w = .ok (.array len e) w) (hsz : ∀ w, (sizeOf e).run P w = .ok 1 w) (hE : P.underlying e = some (.int k)) (hagg : ∀ w, (isAgg e).run P w = .ok false w) (c : Bool) (hc : decide (p ≠ q) = c) :
    (execOp a.eval ⟨dst, .binOp .neq t x y t', ty, pos, af, g⟩).run P w = .ok (.value (.bool c)) w := by
  subst hc
  have h := run_neArr (P := P) (w := w) (t := t) (k := k) (p.map f) (q.map f) (by simpa using hp) (by simpa using hq) hT hsz hE hagg
  have hinj : (p.map f ≠ q.map f) ↔ (p ≠ q) := not_congr ⟨fun e => List.map_inj_right (fun x y h => hf x y h) |>.1 e, fun e => by rw [e]⟩
  simp only [List.map_map] at h
  rw [decide_eq_decide.2 hinj] at h
  have e0 : (eqGuard .neq t x y (.agg (p.map fun z => Value.int k (f z)).toArray) (.agg (q.map fun z => Value.int k (f z)).toArray)).run P w = .ok () w := by
    simp [eqGuard, hG]
  simp only [execOp, ha.ev hx, ha.ev hy, Sem.run_bind, e0, Result.andThen_ok]
  have h' : (binOp .neq t (.agg (p.map fun z => Value.int k (f z)).toArray) (.agg (q.map fun z => Value.int k (f z)).toArray)).run P w = .ok (.bool (decide (p ≠ q))) w := h
  rw [h']
  simp
theorem rn_or (ha : Has n env a) (p q : Nat) (hx : ev env x = some (en p)) (hy : ev env y = some (en q)) (hp : p ≤ 9223372036854775807) (hq : q ≤ 9223372036854775807) :
    (execOp a.eval ⟨dst, .binOp .or t x y t', ty, pos, af, g⟩).run P w = .ok (.value (en (p ||| q))) w := by
  have hlt : p ||| q < 2 ^ 63 := Nat.or_lt_two_pow (by omega) (by omega)
  have e2 : IntKind.i64.wrap ((p ||| q : Nat) : Int) = ((p ||| q : Nat) : Int) := i64_in (by omega) (by omega)
  simp [execOp, ha.ev hx, ha.ev hy, eqGuard, binOp, Op.intBits, IntKind.bits]
  have e' : (BitVec.ofNat 64 p ||| BitVec.ofNat 64 q).toNat = p ||| q := by
    rw [BitVec.toNat_or, BitVec.toNat_ofNat, BitVec.toNat_ofNat, Nat.mod_eq_of_lt (by omega), Nat.mod_eq_of_lt (by omega)]
  show IntKind.i64.wrap (((BitVec.ofNat 64 p ||| BitVec.ofNat 64 q).toNat : Nat) : Int) = _
  rw [e', e2]
theorem retCT {fn : Func} {R : Ending → World → Prop} {p q : Tmp} {ty gb ct : Nat} {C : List Value} (d : TypeDesc) (ha : Has n env a) (hr : fn.results = #[.cell p ty, .tmp q]) (hp : look env p = some (.pointer (some ⟨gb, 0, none⟩))) (hq : look env q = some v)
    (hg : w.heap[gb]? = some (.cells C.toArray ct (0, 0))) (hu : P.underlying ty = some d) (hd : (match d with | .struct _ | .array _ _ => true | _ => false) = true) (hi : (P.info? ty).map (·.size) = some C.length)
    (h : R (.returned (.tuple #[.agg C.toArray, v])) w) : bodyPost P fn R .ret a w := by
  refine ⟨ha.defers, .tuple #[.agg C.toArray, v], ?_, h⟩
  have hpv : a.tmps.getD p undef = .pointer (some ⟨gb, 0, none⟩) := by simp [Array.getD_eq_getD_getElem?, ha.has p _ hp]
  have hqv : a.tmps.getD q undef = v := by simp [Array.getD_eq_getD_getElem?, ha.has q v hq]
  rw [results_cell_tmp hr, hpv]
  simp [asAddr, run_loadVar_row w gb ct ty C.toArray (0, 0) d hg hu hd (by simpa using hi), hqv]
end
end Go.Rx
