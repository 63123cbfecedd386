/- The operations of the calculus, one equation each: numbers, arrays, loads and stores, calls. -/
import Derived.Test.YtaignhikdfpbbaaDoorRxB
namespace Go.Rx
open Go.RowKit

abbrev e64 (x : UInt64) : Value := .int .u64 (x.toNat : Int)
abbrev e32 (x : UInt32) : Value := .int .u32 (x.toNat : Int)
abbrev e8 (x : UInt8) : Value := .int .u8 (x.toNat : Int)
abbrev ei (x : Int) : Value := .int .i64 x
abbrev en (x : Nat) : Value := .int .i64 (x : Int)

section
variable {P : Program} {n : Nat} {env : Env} {a : Act} {w : World} {dst : Option Tmp} {ty : TypeId} {pos : String} {af : Array Edge} {g : Option (Nat × Bool)} {x y z : Operand} {v u : Value}

theorem r_move (ha : Has n env a) (hx : ev env x = some v) : (execOp a.eval ⟨dst, .move x, ty, pos, af, g⟩).run P w = .ok (.value v) w := by
  simp [execOp, ha.ev hx]
theorem r_assign (ha : Has n env a) (hx : ev env x = some v) : (execOp a.eval ⟨dst, .assign x, ty, pos, af, g⟩).run P w = .ok (.value v) w := by
  simp [execOp, ha.ev hx]
theorem r_pick (ha : Has n env a) (b : Bool) {c p q : Operand} (hc : ev env c = some (.bool b)) (hv : (bif b then ev env p else ev env q) = some v) : (execOp a.eval ⟨dst, .pick c p q, ty, pos, af, g⟩).run P w = .ok (.value v) w := by
  cases b <;> simp at hv <;> simp [execOp, ha.ev hc, asBool, ha.ev hv]

/-! ### Memory -/
theorem r_box (ha : Has n env a) {t : TypeId} (hx : ev env x = some v) : (execOp a.eval ⟨dst, .box t x, ty, pos, af, g⟩).run P w = .ok (.value (.pointer (some ⟨w.heap.size, 0, none⟩))) (w.alloc (.cells v.cells t)) := by
  simp [execOp, ha.ev hx, Instr.box, newVar, newRow, newObj]
  rfl
theorem r_alloc {t : TypeId} (hz : ∀ w, (zeroValue t).run P w = .ok v w) : (execOp a.eval ⟨dst, .alloc t, ty, pos, af, g⟩).run P w = .ok (.value (.pointer (some ⟨w.heap.size, 0, none⟩))) (w.alloc (.cells v.cells t)) := by
  simp [execOp, Instr.alloc, hz, newVar, newRow, newObj]
  rfl

theorem r_load (ha : Has n env a) {t : TypeId} {b o : Nat} (hx : ev env x = some (.pointer (some ⟨b, o, none⟩))) (hagg : ∀ w, (isAgg t).run P w = .ok false w) (hc : w.cell? ⟨b, o, none⟩ = some v) :
    (execOp a.eval ⟨dst, .load t x, ty, pos, af, g⟩).run P w = .ok (.value v) w := by
  simp [execOp, ha.ev hx, Instr.loadAt, Instr.sureAddr, loadVar, hagg, load, Sem.run, hc]

theorem cell_of {b o t : Nat} {C : List Value} {fr : Nat × Nat} (hb : w.heap[b]? = some (.cells C.toArray t fr)) (hc : C[o]? = some v) : w.cell? ⟨b, o, none⟩ = some v := by
  rw [cell_of_row w b o _ t fr hb]; simpa using hc

theorem add_zero' (b o k : Nat) : (⟨b, o, none⟩ : Addr).add k = ⟨b, o + k, none⟩ := by
  unfold Addr.add; split
  · subst k; rfl
  · rfl

theorem r_loadR (ha : Has n env a) {t : TypeId} {b o sz : Nat} (hx : ev env x = some (.pointer (some ⟨b, o, none⟩))) (hagg : ∀ w, (isAgg t).run P w = .ok true w) (hsz : ∀ w, (sizeOf t).run P w = .ok sz w) {C : List Value} (hl : C.length = sz)
    (hc : ∀ j u, C[j]? = some u → w.cell? ⟨b, o + j, none⟩ = some u) :
    (execOp a.eval ⟨dst, .load t x, ty, pos, af, g⟩).run P w = .ok (.value (.agg C.toArray)) w := by
  have h := run_loadCells_list (P := P) w ⟨b, o, none⟩ C (fun j u hu => by rw [add_zero']; exact hc j u hu)
  rw [hl] at h
  simp [execOp, ha.ev hx, Instr.loadAt, Instr.sureAddr, loadVar, hagg, hsz, h]

theorem cells_of {b t : Nat} {D C : List Value} {fr : Nat × Nat} (o : Nat) (hb : w.heap[b]? = some (.cells D.toArray t fr)) (hc : (D.drop o).take C.length = C) : ∀ j u, C[j]? = some u → w.cell? ⟨b, o + j, none⟩ = some u := by
  intro j u hu
  rw [cell_of_row w b _ _ t fr hb]
  have hj : j < C.length := (List.getElem?_eq_some_iff.1 hu).1
  rw [← hc, List.getElem?_take, if_pos hj, List.getElem?_drop] at hu
  simpa using hu

theorem cells_all {b t : Nat} {D : List Value} {fr : Nat × Nat} (hb : w.heap[b]? = some (.cells D.toArray t fr)) : ∀ j u, D[j]? = some u → w.cell? ⟨b, 0 + j, none⟩ = some u := by
  intro j u hu
  rw [Nat.zero_add, cell_of_row w b _ _ t fr hb]
  simpa using hu

theorem r_store (ha : Has n env a) {t bt : TypeId} {b o : Nat} {C : List Value} (hx : ev env x = some (.pointer (some ⟨b, o, none⟩))) (hy : ev env y = some v) (hv : v.oneCell' = true) (hvs : v.cells = #[v]) (hsz : ∀ w, (sizeOf t).run P w = .ok 1 w)
    (hb : w.heap[b]? = some (.cells C.toArray bt (0, 0))) (ho : o < C.length) :
    (execOp a.eval ⟨dst, .store t x y, ty, pos, af, g⟩).run P w = .ok .skip (w.setRow b (C.set o v).toArray) := by
  have hcell : w.cell? ⟨b, o, none⟩ = some (C[o]) := by rw [cell_of_row w b o _ bt (0, 0) hb]; simp [ho]
  have hfro : w.frozen? ⟨b, o, none⟩ = false := by simp [World.frozen?, hb]
  have hst : (store ⟨b, o, none⟩ v).run P w = .ok () (w.setRow b (C.set o v).toArray) := by
    rw [run_store P w _ v _ hv, hcell]
    simp only [hfro, setCell_eq_setRow w b o C.toArray bt (0, 0) v hb]
    simp
  have hz : (⟨b, o, none⟩ : Addr).add 0 = ⟨b, o, none⟩ := rfl
  simp [execOp, ha.ev hx, ha.ev hy, Instr.storeAt, Instr.sureAddr, storeVar, hsz, hvs, storeCells, hz, hst]

theorem r_storeR (ha : Has n env a) {t bt : TypeId} {b o sz : Nat} {C D : List Value} (hx : ev env x = some (.pointer (some ⟨b, o, none⟩))) (hy : ev env y = some (.agg D.toArray)) (hD : ∀ u ∈ D, u.oneCell' = true) (hsz : ∀ w, (sizeOf t).run P w = .ok sz w) (hl : D.length = sz)
    (hb : w.heap[b]? = some (.cells C.toArray bt (0, 0))) (ho : o + D.length ≤ C.length) :
    (execOp a.eval ⟨dst, .store t x y, ty, pos, af, g⟩).run P w = .ok .skip (w.setRow b (C.take o ++ D ++ C.drop (o + D.length)).toArray) := by
  have h := run_storeCells_at P b o bt D 0 C.toArray w hb (by simpa using ho) hD
  simp only [Nat.add_zero] at h
  have hl' : D.toArray.size = sz := by simpa using hl
  simp [execOp, ha.ev hx, ha.ev hy, Instr.storeAt, Instr.sureAddr, storeVar, hsz, Value.cells, hl, h]

theorem r_indexArr (ha : Has n env a) {t e len sz : Nat} {b o i : Nat} (o' : Nat) (hT : ∀ w, (underlying t).run P w = .ok (.array len e) w) (hsz : ∀ w, (sizeOf e).run P w = .ok sz w) (hx : ev env x = some (.pointer (some ⟨b, o, none⟩))) (hy : ev env y = some (en i)) (hi : i < len) (ho : o + i * sz = o') :
    (execOp a.eval ⟨dst, .indexAddr t x y, ty, pos, af, g⟩).run P w = .ok (.value (.pointer (some ⟨b, o', none⟩))) w := by
  have h1 : (0 : Int) ≤ (i : Int) ∧ (i : Int) < (len : Int) := ⟨by omega, by omega⟩
  simp [execOp, ha.ev hx, ha.ev hy, Instr.indexAt, asIntOf, hT, hsz, Instr.sureAddr, h1, add_zero', ho, hi]

/-! ### Worlds: what changes is told by 'grownBy' (nothing that was there but one block); all else is carried on -/
section
variable {w0 w' : World} {row : Option Nat} {b c : Nat} {o : Obj}

theorem grown_alloc (w : World) (o : Obj) : w.grownBy (w.alloc o) none := World.grownBy_alloc w o none
theorem grown_setRow (w : World) (b : Nat) (C : Array Value) : w.grownBy (w.setRow b C) (some b) :=
  ⟨rfl, rfl, rfl, by simp, fun k _ hk => setRow_other w b k C (fun e => hk (by rw [e]))⟩
theorem grown_call (h : Below w.heap.size w w') : w.grownBy w' none := ⟨h.os, h.tape, h.output, h.size, fun k hk _ => h.block k hk⟩
theorem grown_drew (w : World) : w.grownBy { w with drawn := w.drawn + 1 } none := ⟨rfl, rfl, rfl, Nat.le_refl _, fun _ _ _ => rfl⟩

theorem keepB0 (hg : w.grownBy w' none) (h : Below w0.heap.size w0 w) : Below w0.heap.size w0 w' :=
  h.grown hg h.size (fun _ e => by cases e)
theorem keepB1 (hg : w.grownBy w' (some b)) (hb : w0.heap.size ≤ b) (h : Below w0.heap.size w0 w) : Below w0.heap.size w0 w' :=
  h.grown hg h.size (fun k e => by cases e; exact hb)
theorem keepO0 (hg : w.grownBy w' none) (h : w.heap[c]? = some o) : w'.heap[c]? = some o := by
  rw [hg.block c (Array.getElem?_eq_some_iff.1 h).1 (by simp)]; exact h
theorem keepO1 (hg : w.grownBy w' (some b)) (hne : c ≠ b) (h : w.heap[c]? = some o) : w'.heap[c]? = some o := by
  rw [hg.block c (Array.getElem?_eq_some_iff.1 h).1 (by simpa using hne)]; exact h
theorem lt_of_block (h : w.heap[c]? = some o) : c < w.heap.size := (Array.getElem?_eq_some_iff.1 h).1

theorem setRow_new {C D : List Value} {t : TypeId} {fr : Nat × Nat} (h : w.heap[b]? = some (.cells C.toArray t fr)) : (w.setRow b D.toArray).heap[b]? = some (.cells D.toArray t fr) :=
  setRow_heap w b C.toArray D.toArray t fr h
end

/-! ### The moves with the worlds behind names -/
section
variable {ops : Array Oper} {Q : Exit → Act → World → Prop} {rest : List Oper} {d : Nat} {S : World → Prop} {T : List Nat} {i : Nat} {st r : List Nat}

theorem sbox (ha : Has n env a) {t : TypeId} {C : List Value} (hx : ev env x = some (.agg C.toArray)) (hn : Nat.blt d n = true)
    (k : ∀ a' w' b, Has n ((d, .pointer (some ⟨b, 0, none⟩)) :: env) a' → w.grownBy w' none → w'.heap[b]? = some (.cells C.toArray t (0, 0)) → w.heap.size ≤ b → b < w'.heap.size → wpList P ops Q rest a' w') :
    wpList P ops Q (⟨some d, .box t x, ty, pos, af, none⟩ :: rest) a w :=
  sv ha (r_box ha hx) rfl rfl hn fun _ ha' => k _ _ _ ha' (grown_alloc w _) (heap_alloc_new w _) (Nat.le_refl _) (by simp)
theorem sbox1 (ha : Has n env a) {t : TypeId} (hx : ev env x = some v) (hv : v.cells = #[v]) (hn : Nat.blt d n = true)
    (k : ∀ a' w' b, Has n ((d, .pointer (some ⟨b, 0, none⟩)) :: env) a' → w.grownBy w' none → w'.heap[b]? = some (.cells [v].toArray t (0, 0)) → w.heap.size ≤ b → b < w'.heap.size → wpList P ops Q rest a' w') :
    wpList P ops Q (⟨some d, .box t x, ty, pos, af, none⟩ :: rest) a w :=
  sv ha (r_box ha hx) rfl rfl hn fun _ ha' => k _ _ _ ha' (grown_alloc w _) (by rw [heap_alloc_new w _, hv]) (Nat.le_refl _) (by simp)
theorem salloc (ha : Has n env a) {t : TypeId} {C : List Value} (hz : ∀ w, (zeroValue t).run P w = .ok (.agg C.toArray) w) (hn : Nat.blt d n = true)
    (k : ∀ a' w' b, Has n ((d, .pointer (some ⟨b, 0, none⟩)) :: env) a' → w.grownBy w' none → w'.heap[b]? = some (.cells C.toArray t (0, 0)) → w.heap.size ≤ b → b < w'.heap.size → wpList P ops Q rest a' w') :
    wpList P ops Q (⟨some d, .alloc t, ty, pos, af, none⟩ :: rest) a w :=
  sv ha (r_alloc hz) rfl rfl hn fun _ ha' => k _ _ _ ha' (grown_alloc w _) (heap_alloc_new w _) (Nat.le_refl _) (by simp)
theorem salloc1 (ha : Has n env a) {t : TypeId} (hz : ∀ w, (zeroValue t).run P w = .ok v w) (hv : v.cells = #[v]) (hn : Nat.blt d n = true)
    (k : ∀ a' w' b, Has n ((d, .pointer (some ⟨b, 0, none⟩)) :: env) a' → w.grownBy w' none → w'.heap[b]? = some (.cells [v].toArray t (0, 0)) → w.heap.size ≤ b → b < w'.heap.size → wpList P ops Q rest a' w') :
    wpList P ops Q (⟨some d, .alloc t, ty, pos, af, none⟩ :: rest) a w :=
  sv ha (r_alloc hz) rfl rfl hn fun _ ha' => k _ _ _ ha' (grown_alloc w _) (by rw [heap_alloc_new w _, hv]) (Nat.le_refl _) (by simp)
/-- A store of one cell into a block of one's own. -/
theorem sstore (ha : Has n env a) {t bt : TypeId} {b o : Nat} {C : List Value} (hx : ev env x = some (.pointer (some ⟨b, o, none⟩))) (hy : ev env y = some v) (hv : v.oneCell' = true) (hvs : v.cells = #[v]) (hsz : ∀ w, (sizeOf t).run P w = .ok 1 w)
    (hb : w.heap[b]? = some (.cells C.toArray bt (0, 0))) (ho : o < C.length)
    (k : ∀ a' w', Has n env a' → w.grownBy w' (some b) → w'.heap[b]? = some (.cells (C.set o v).toArray bt (0, 0)) → wpList P ops Q rest a' w') : wpList P ops Q (⟨none, .store t x y, ty, pos, af, none⟩ :: rest) a w :=
  ss ha (r_store ha hx hy hv hvs hsz hb ho) rfl rfl fun _ ha' => k _ _ ha' (grown_setRow w b _) (setRow_new hb)
theorem sstoreR (ha : Has n env a) {t bt : TypeId} {b o sz : Nat} {C D : List Value} (hx : ev env x = some (.pointer (some ⟨b, o, none⟩))) (hy : ev env y = some (.agg D.toArray)) (hD : ∀ u ∈ D, u.oneCell' = true) (hsz : ∀ w, (sizeOf t).run P w = .ok sz w) (hl : D.length = sz)
    (hb : w.heap[b]? = some (.cells C.toArray bt (0, 0))) (ho : o + D.length ≤ C.length)
    (k : ∀ a' w', Has n env a' → w.grownBy w' (some b) → w'.heap[b]? = some (.cells (C.take o ++ D ++ C.drop (o + D.length)).toArray bt (0, 0)) → wpList P ops Q rest a' w') : wpList P ops Q (⟨none, .store t x y, ty, pos, af, none⟩ :: rest) a w :=
  ss ha (r_storeR ha hx hy hD hsz hl hb ho) rfl rfl fun _ ha' => k _ _ ha' (grown_setRow w b _) (setRow_new hb)

/-- A store of a whole array. -/
theorem sstoreW (ha : Has n env a) {t bt : TypeId} {b sz : Nat} {C D : List Value} (hx : ev env x = some (.pointer (some ⟨b, 0, none⟩))) (hy : ev env y = some (.agg D.toArray)) (hD : ∀ u ∈ D, u.oneCell' = true) (hsz : ∀ w, (sizeOf t).run P w = .ok sz w) (hl : D.length = sz)
    (hb : w.heap[b]? = some (.cells C.toArray bt (0, 0))) (hC : C.length = sz)
    (k : ∀ a' w', Has n env a' → w.grownBy w' (some b) → w'.heap[b]? = some (.cells D.toArray bt (0, 0)) → wpList P ops Q rest a' w') : wpList P ops Q (⟨none, .store t x y, ty, pos, af, none⟩ :: rest) a w :=
  sstoreR ha hx hy hD hsz hl hb (by omega) fun a' w' ha' hg hb' => k a' w' ha' hg (by rwa [show C.take 0 ++ D ++ C.drop (0 + D.length) = D by simp [hl, hC]] at hb')

theorem cstore (ha : Has n env a) {t bt : TypeId} {b o : Nat} {C : List Value} (hi : ops[i]? = some ⟨none, .store t x y, ty, pos, af, none⟩) (hc : st.contains i = false) (hx : ev env x = some (.pointer (some ⟨b, o, none⟩))) (hy : ev env y = some v) (hv : v.oneCell' = true) (hvs : v.cells = #[v]) (hsz : ∀ w, (sizeOf t).run P w = .ok 1 w)
    (hb : w.heap[b]? = some (.cells C.toArray bt (0, 0))) (ho : o < C.length) (hlast : T.contains i = true)
    (k : ∀ a' w', Has n env a' → w.grownBy w' (some b) → w'.heap[b]? = some (.cells (C.set o v).toArray bt (0, 0)) → wpC P ops Q S T st r a' w') : wpC P ops Q S T st (i :: r) a w :=
  cs ha hi hc (r_store ha hx hy hv hvs hsz hb ho) rfl rfl (by rw [hlast]; simp) fun _ ha' => k _ _ ha' (grown_setRow w b _) (setRow_new hb)
theorem cstoreR (ha : Has n env a) {t bt : TypeId} {b o sz : Nat} {C D : List Value} (hi : ops[i]? = some ⟨none, .store t x y, ty, pos, af, none⟩) (hc : st.contains i = false) (hx : ev env x = some (.pointer (some ⟨b, o, none⟩))) (hy : ev env y = some (.agg D.toArray)) (hD : ∀ u ∈ D, u.oneCell' = true) (hsz : ∀ w, (sizeOf t).run P w = .ok sz w) (hl : D.length = sz)
    (hb : w.heap[b]? = some (.cells C.toArray bt (0, 0))) (ho : o + D.length ≤ C.length) (hlast : T.contains i = true)
    (k : ∀ a' w', Has n env a' → w.grownBy w' (some b) → w'.heap[b]? = some (.cells (C.take o ++ D ++ C.drop (o + D.length)).toArray bt (0, 0)) → wpC P ops Q S T st r a' w') : wpC P ops Q S T st (i :: r) a w :=
  cs ha hi hc (r_storeR ha hx hy hD hsz hl hb ho) rfl rfl (by rw [hlast]; simp) fun _ ha' => k _ _ ha' (grown_setRow w b _) (setRow_new hb)
theorem cstoreW (ha : Has n env a) {t bt : TypeId} {b sz : Nat} {C D : List Value} (hi : ops[i]? = some ⟨none, .store t x y, ty, pos, af, none⟩) (hc : st.contains i = false) (hx : ev env x = some (.pointer (some ⟨b, 0, none⟩))) (hy : ev env y = some (.agg D.toArray)) (hD : ∀ u ∈ D, u.oneCell' = true) (hsz : ∀ w, (sizeOf t).run P w = .ok sz w) (hl : D.length = sz)
    (hb : w.heap[b]? = some (.cells C.toArray bt (0, 0))) (hC : C.length = sz) (hlast : T.contains i = true)
    (k : ∀ a' w', Has n env a' → w.grownBy w' (some b) → w'.heap[b]? = some (.cells D.toArray bt (0, 0)) → wpC P ops Q S T st r a' w') : wpC P ops Q S T st (i :: r) a w :=
  cstoreR ha hi hc hx hy hD hsz hl hb (by omega) hlast fun a' w' ha' hg hb' => k a' w' ha' hg (by rwa [show C.take 0 ++ D ++ C.drop (0 + D.length) = D by simp [hl, hC]] at hb')
end

theorem get_map {α : Type} (f : α → Value) (l : List α) (d : α) (i : Nat) (h : i < l.length) : (l.map f)[i]? = some (f (l.getD i d)) := by
  simp [List.getD, h]
theorem set_map {α : Type} (f : α → Value) (l : List α) (i : Nat) (x : α) : (l.map f).set i (f x) = (l.set i x).map f := by simp
theorem one_e64 (l : List UInt64) : ∀ u ∈ l.map e64, u.oneCell' = true := by intro u hu; obtain ⟨x, _, rfl⟩ := List.mem_map.1 hu; rfl
theorem one_e8 (l : List UInt8) : ∀ u ∈ l.map e8, u.oneCell' = true := by intro u hu; obtain ⟨x, _, rfl⟩ := List.mem_map.1 hu; rfl
theorem one_ei (l : List Int) : ∀ u ∈ l.map ei, u.oneCell' = true := by intro u hu; obtain ⟨x, _, rfl⟩ := List.mem_map.1 hu; rfl
theorem one_en (l : List Nat) : ∀ u ∈ l.map en, u.oneCell' = true := by intro u hu; obtain ⟨x, _, rfl⟩ := List.mem_map.1 hu; rfl

/-! ### Calls -/
def evs (env : Env) : List Operand → Option (List Value)
  | [] => some []
  | x :: r => match ev env x, evs env r with
    | some v, some l => some (v :: l)
    | _, _ => none

theorem Has.evs (ha : Has n env a) : ∀ (l : List Operand) (vs : List Value), Rx.evs env l = some vs → l.map a.eval = vs
  | [], vs, h => by simp [Rx.evs] at h; subst h; rfl
  | x :: r, vs, h => by
    simp only [Rx.evs] at h
    split at h
    · rename_i v l hv hl
      simp only [Option.some.injEq] at h
      subst h
      rw [List.map_cons, ha.ev hv, Has.evs ha r l hl]
    · cases h

theorem r_call (ha : Has n env a) {f : FuncId} {l : List Operand} {tys : Array TypeId} (vs : List Value) (hl : evs env l = some vs) (hc : ∀ args w, (callFunc f args).run P w = .ok (.enter f args) w) :
    (execOp a.eval ⟨dst, .call ⟨.value (.func f), l.toArray, tys⟩, ty, pos, af, g⟩).run P w = .ok (.enter f vs.toArray) w := by
  have h := ha.evs l vs hl
  have hf : a.eval (.func f) = .func (.func f) #[] #[] := rfl
  simp [execOp, resolve, hf, Deferred.ofValue, invoke, h, hc]

/-- A call of a function value that the frame holds. -/
theorem r_callV (ha : Has n env a) {f : FuncId} {l : List Operand} {tys : Array TypeId} {cap : Array Value} (vs : List Value) (hx : ev env x = some (.func (.func f) #[] cap)) (hl : evs env l = some vs) (hc : ∀ args w, (callFunc f args).run P w = .ok (.enter f args) w) :
    (execOp a.eval ⟨dst, .call ⟨.value x, l.toArray, tys⟩, ty, pos, af, g⟩).run P w = .ok (.enter f (vs.toArray ++ cap)) w := by
  have h := ha.evs l vs hl
  simp [execOp, resolve, ha.ev hx, Deferred.ofValue, invoke, h, hc]

theorem r_extract (ha : Has n env a) {i : Nat} {vs : Array Value} (hx : ev env x = some (.tuple vs)) (hi : vs[i]? = some v) : (execOp a.eval ⟨dst, .extract x i, ty, pos, af, g⟩).run P w = .ok (.value v) w := by
  simp [execOp, ha.ev hx, Instr.extract, hi]

/-! ### Numbers: int -/
theorem wrap_in {k : IntKind} {z : Int} (h : k.wrap z = z) : Value.int k (k.wrap z) = .int k z := by rw [h]

theorem i64_in {z : Int} (h1 : -9223372036854775808 ≤ z) (h2 : z ≤ 9223372036854775807) : IntKind.i64.wrap z = z := IntWalk.i64_in z ⟨h1, h2⟩

section
variable {t t' : TypeId}

theorem r_add (ha : Has n env a) (p q : Int) (hx : ev env x = some (ei p)) (hy : ev env y = some (ei q)) (h : -9223372036854775808 ≤ p + q ∧ p + q ≤ 9223372036854775807) :
    (execOp a.eval ⟨dst, .binOp .add t x y t', ty, pos, af, g⟩).run P w = .ok (.value (ei (p + q))) w := by
  simp [execOp, ha.ev hx, ha.ev hy, eqGuard, binOp, Op.intArith, i64_in h.1 h.2]
theorem r_sub (ha : Has n env a) (p q : Int) (hx : ev env x = some (ei p)) (hy : ev env y = some (ei q)) (h : -9223372036854775808 ≤ p - q ∧ p - q ≤ 9223372036854775807) :
    (execOp a.eval ⟨dst, .binOp .sub t x y t', ty, pos, af, g⟩).run P w = .ok (.value (ei (p - q))) w := by
  simp [execOp, ha.ev hx, ha.ev hy, eqGuard, binOp, Op.intArith, i64_in h.1 h.2]
theorem r_mul (ha : Has n env a) (p q : Int) (hx : ev env x = some (ei p)) (hy : ev env y = some (ei q)) (h : -9223372036854775808 ≤ p * q ∧ p * q ≤ 9223372036854775807) :
    (execOp a.eval ⟨dst, .binOp .mul t x y t', ty, pos, af, g⟩).run P w = .ok (.value (ei (p * q))) w := by
  simp [execOp, ha.ev hx, ha.ev hy, eqGuard, binOp, Op.intArith, i64_in h.1 h.2]

/- numbers that are no less than nought -/
theorem rn_add (ha : Has n env a) (p q : Nat) (hx : ev env x = some (en p)) (hy : ev env y = some (en q)) (h : p + q ≤ 9223372036854775807) :
    (execOp a.eval ⟨dst, .binOp .add t x y t', ty, pos, af, g⟩).run P w = .ok (.value (en (p + q))) w := by
  have := r_add (P := P) (w := w) (t := t) (t' := t') (ty := ty) (pos := pos) (af := af) (g := g) (dst := dst) ha p q hx hy (by omega)
  rw [this]; simp
theorem rn_sub (ha : Has n env a) (p q : Nat) (hx : ev env x = some (en p)) (hy : ev env y = some (en q)) (h : q ≤ p) (hp : p ≤ 9223372036854775807) :
    (execOp a.eval ⟨dst, .binOp .sub t x y t', ty, pos, af, g⟩).run P w = .ok (.value (en (p - q))) w := by
  have := r_sub (P := P) (w := w) (t := t) (t' := t') (ty := ty) (pos := pos) (af := af) (g := g) (dst := dst) ha p q hx hy (by omega)
  rw [this, show ((p : Int) - (q : Int)) = ((p - q : Nat) : Int) by omega]
theorem rn_mul (ha : Has n env a) (p q : Nat) (hx : ev env x = some (en p)) (hy : ev env y = some (en q)) (h : p * q ≤ 9223372036854775807) :
    (execOp a.eval ⟨dst, .binOp .mul t x y t', ty, pos, af, g⟩).run P w = .ok (.value (en (p * q))) w := by
  have := r_mul (P := P) (w := w) (t := t) (t' := t') (ty := ty) (pos := pos) (af := af) (g := g) (dst := dst) ha p q hx hy (by rw [← Int.natCast_mul]; omega)
  rw [this]; simp

theorem rn_rem (ha : Has n env a) (p q : Nat) (hx : ev env x = some (en p)) (hy : ev env y = some (en q)) (hq : 0 < q) :
    (execOp a.eval ⟨dst, .binOp .rem t x y t', ty, pos, af, g⟩).run P w = .ok (.value (en (p % q))) w := by
  have h0 : ¬ ((q : Int) = 0) := by omega
  have h1 : (p : Int).tmod q = ((p % q : Nat) : Int) := rfl
  simp only [execOp, ha.ev hx, ha.ev hy, eqGuard, binOp, Op.intDiv, h1, if_neg h0]
  simp
theorem rn_quo (ha : Has n env a) (p q : Nat) (hx : ev env x = some (en p)) (hy : ev env y = some (en q)) (hq : 0 < q) (hp : p ≤ 9223372036854775807) :
    (execOp a.eval ⟨dst, .binOp .quo t x y t', ty, pos, af, g⟩).run P w = .ok (.value (en (p / q))) w := by
  have h0 : ¬ ((q : Int) = 0) := by omega
  have h1 : ((p : Int)).tdiv q = ((p / q : Nat) : Int) := by rw [Int.tdiv_eq_ediv_of_nonneg (by omega)]; simp
  have h2 : p / q ≤ p := Nat.div_le_self p q
  have h3 : ∀ r : Nat, r ≤ p → IntKind.i64.wrap (r : Int) = r := fun r hr => i64_in (by omega) (by omega)
  simp only [execOp, ha.ev hx, ha.ev hy, eqGuard, binOp, Op.intDiv, h1, if_neg h0, h3 _ h2]
  simp

theorem r_rem (ha : Has n env a) (p q : Int) (hx : ev env x = some (ei p)) (hy : ev env y = some (ei q)) (hq : q ≠ 0) :
    (execOp a.eval ⟨dst, .binOp .rem t x y t', ty, pos, af, g⟩).run P w = .ok (.value (ei (p.tmod q))) w := by
  simp [execOp, ha.ev hx, ha.ev hy, eqGuard, binOp, Op.intDiv, hq]
theorem r_quo (ha : Has n env a) (p q : Int) (hx : ev env x = some (ei p)) (hy : ev env y = some (ei q)) (hq : q ≠ 0) (h : -9223372036854775808 ≤ p.tdiv q ∧ p.tdiv q ≤ 9223372036854775807) :
    (execOp a.eval ⟨dst, .binOp .quo t x y t', ty, pos, af, g⟩).run P w = .ok (.value (ei (p.tdiv q))) w := by
  simp [execOp, ha.ev hx, ha.ev hy, eqGuard, binOp, Op.intDiv, hq, i64_in h.1 h.2]

/- comparisons: integers of whatever kind -/
theorem r_lss (ha : Has n env a) {k : IntKind} (p q : Int) (c : Bool) (hx : ev env x = some (.int k p)) (hy : ev env y = some (.int k q)) (hc : decide (p < q) = c) :
    (execOp a.eval ⟨dst, .binOp .lss t x y t', ty, pos, af, g⟩).run P w = .ok (.value (.bool c)) w := by
  subst hc; simp [execOp, ha.ev hx, ha.ev hy, eqGuard, binOp, Op.intCmp]
theorem r_leq (ha : Has n env a) {k : IntKind} (p q : Int) (c : Bool) (hx : ev env x = some (.int k p)) (hy : ev env y = some (.int k q)) (hc : decide (p ≤ q) = c) :
    (execOp a.eval ⟨dst, .binOp .leq t x y t', ty, pos, af, g⟩).run P w = .ok (.value (.bool c)) w := by
  subst hc; simp [execOp, ha.ev hx, ha.ev hy, eqGuard, binOp, Op.intCmp]
theorem r_gtr (ha : Has n env a) {k : IntKind} (p q : Int) (c : Bool) (hx : ev env x = some (.int k p)) (hy : ev env y = some (.int k q)) (hc : decide (q < p) = c) :
    (execOp a.eval ⟨dst, .binOp .gtr t x y t', ty, pos, af, g⟩).run P w = .ok (.value (.bool c)) w := by
  subst hc; simp [execOp, ha.ev hx, ha.ev hy, eqGuard, binOp, Op.intCmp]
theorem r_geq (ha : Has n env a) {k : IntKind} (p q : Int) (c : Bool) (hx : ev env x = some (.int k p)) (hy : ev env y = some (.int k q)) (hc : decide (q ≤ p) = c) :
    (execOp a.eval ⟨dst, .binOp .geq t x y t', ty, pos, af, g⟩).run P w = .ok (.value (.bool c)) w := by
  subst hc; simp [execOp, ha.ev hx, ha.ev hy, eqGuard, binOp, Op.intCmp]
theorem r_eql (ha : Has n env a) {k : IntKind} (p q : Int) (c : Bool) (hx : ev env x = some (.int k p)) (hy : ev env y = some (.int k q)) (hc : decide (p = q) = c) :
    (execOp a.eval ⟨dst, .binOp .eql t x y t', ty, pos, af, g⟩).run P w = .ok (.value (.bool c)) w := by
  subst hc; simp [execOp, ha.ev hx, ha.ev hy, eqGuard, binOp, Op.intCmp]
  exact Bool.beq_eq_decide_eq _ _
theorem r_neq (ha : Has n env a) {k : IntKind} (p q : Int) (c : Bool) (hx : ev env x = some (.int k p)) (hy : ev env y = some (.int k q)) (hc : decide (p ≠ q) = c) :
    (execOp a.eval ⟨dst, .binOp .neq t x y t', ty, pos, af, g⟩).run P w = .ok (.value (.bool c)) w := by
  subst hc; simp [execOp, ha.ev hx, ha.ev hy, eqGuard, binOp, Op.intCmp]
  rfl

theorem r_not (ha : Has n env a) (b c : Bool) (hx : ev env x = some (.bool b)) (hc : (!b) = c) : (execOp a.eval ⟨dst, .unOp .not t x, ty, pos, af, g⟩).run P w = .ok (.value (.bool c)) w := by
  subst hc; simp [execOp, ha.ev hx, Op.unary]
end
end
end Go.Rx
