/- The operations of the calculus: make, literals, copy, append, parts of slices, strings. -/
import Derived.Test.YtaignhikdfpbbaaDoorRxE
import Derived.Laws.CopyOwn
namespace Go.Rx
open Go.RowKit

section
variable {P : Program} {n : Nat} {env : Env} {a : Act} {w w' : World} {dst : Option Tmp} {ty : TypeId} {pos : String} {af : Array Edge} {g : Option (Nat × Bool)} {x y z : Operand} {t t' : TypeId} {v u : Value}
variable {ops : Array Oper} {Q : Exit → Act → World → Prop} {rest : List Oper} {d : Nat} {S : World → Prop} {m i : Nat} {st r : List Nat}

theorem made_one (z : Value) (k : Nat) (hz : z.cells = #[z]) : madeCells z.cells k = ((List.replicate k z)).toArray := by
  rw [hz]; unfold madeCells
  apply Array.ext
  · simp
  · intro i h1 h2; simp [Nat.mod_one]

/-- make([]T, k) of one-cell elements. -/
theorem smake (ha : Has n env a) {e k : Nat} {ti : TypeInfo} {z : Value} (hx : ev env x = some (en k)) (hy : ev env y = some (en k)) (ht : P.underlying t = some (.slice e)) (hi : P.info? e = some ti) (hz : ti.zero = some z) (hsz : ti.size = 1) (hzc : z.cells = #[z]) (hk : ti.bytes * k ≤ 281474976710656) (hk2 : k ≤ 9223372036854775807) (hn : Nat.blt d n = true)
    (K : ∀ a' w' b, Has n ((d, .slice (some ⟨b, 0, none⟩) k k) :: env) a' → w.grownBy w' none → w'.heap[b]? = some (.cells (List.replicate k z).toArray e (0, 0)) → w.heap.size ≤ b → b < w'.heap.size → wpList P ops Q rest a' w') :
    wpList P ops Q (⟨some d, .makeSlice t x y, ty, pos, af, none⟩ :: rest) a w := by
  have hr := run_make (P := P) w t e ti z ht hi hz .i64 .i64 k k (by omega) (Int.le_refl _) (by rw [← Int.natCast_mul]; omega) (by omega)
  rw [hsz, Nat.mul_one, Int.toNat_natCast, made_one z k hzc] at hr
  have hrun : (execOp a.eval ⟨some d, .makeSlice t x y, ty, pos, af, none⟩).run P w = .ok (.value (.slice (some ⟨w.heap.size, 0, none⟩) k k)) (w.alloc (.cells (List.replicate k z).toArray e)) := by
    simp only [execOp, ha.ev hx, ha.ev hy, Sem.run_bind, hr, Result.andThen_ok]; rfl
  exact sv ha hrun rfl rfl hn fun _ ha' => K _ _ _ ha' (grown_alloc w _) (heap_alloc_new w _) (Nat.le_refl _) (by simp)

/-- A literal of a slice, all elements given, one cell each. -/
theorem run_buildSlice {e k : Nat} {parts : Array (Nat × Value)} {C : List Value} (hT : ∀ w, (underlying t).run P w = .ok (.slice e) w) (hsz : ∀ w, (sizeOf e).run P w = .ok 1 w) {z : Value} (hz : ∀ w, (zeroValue e).run P w = .ok z w) (hzc : z.cells = #[z]) (hk0 : 0 < k) (hk : k ≤ 16777216)
    (hf : Instr.fill (fun i => some (i * 1, 1)) (List.replicate k z).toArray parts.toList = some C.toArray) :
    (Instr.buildSlice t k parts).run P w = .ok (.slice (some ⟨w.heap.size, 0, none⟩) k k) (w.alloc (.cells C.toArray e)) := by
  have hm : (Array.range (k * 1)).map (z.cells[· % z.cells.size]!) = (List.replicate k z).toArray := by
    have := made_one z k hzc; unfold madeCells at this; rw [Nat.mul_one]; exact this
  have h0 : ¬ k * 1 = 0 := by omega
  have hk' : ¬ (2 ^ 24 < k) := by omega
  · simp only [Instr.buildSlice, Sem.run_bind, hT, hsz, Result.andThen_ok]
    simp only [Nat.mul_one] at hm h0
    simp [hk', h0, hz, hm, newRow, newObj]
    have hf' : Instr.fill (fun i => some (i, 1)) (List.replicate k z).toArray parts.toList = some C.toArray := by simpa using hf
    simp at hf'
    simp [hf']
    rfl

def evp (env : Env) : List (Nat × Operand) → Option (List (Nat × Value))
  | [] => some []
  | (i, x) :: r => match ev env x, evp env r with
    | some v, some l => some ((i, v) :: l)
    | _, _ => none
theorem Has.evp (ha : Has n env a) : ∀ (l : List (Nat × Operand)) (vs : List (Nat × Value)), Rx.evp env l = some vs → l.map (fun p => (p.1, a.eval p.2)) = vs
  | [], vs, h => by simp [Rx.evp] at h; subst h; rfl
  | (i, x) :: r, vs, h => by
    simp only [Rx.evp] at h
    split at h
    · rename_i v l hv hl
      simp only [Option.some.injEq] at h
      subst h
      rw [List.map_cons, ha.ev hv, Has.evp ha r l hl]
    · cases h

theorem sbuildS (ha : Has n env a) {e k : Nat} {parts : List (Nat × Operand)} (vs : List (Nat × Value)) (C : List Value) (hp : evp env parts = some vs) (hT : ∀ w, (underlying t).run P w = .ok (.slice e) w) (hsz : ∀ w, (sizeOf e).run P w = .ok 1 w) {z : Value} (hz : ∀ w, (zeroValue e).run P w = .ok z w) (hzc : z.cells = #[z]) (hk0 : Nat.blt 0 k = true) (hk : Nat.ble k 16777216 = true)
    (hf : Instr.fill (fun i => some (i * 1, 1)) (List.replicate k z).toArray vs = some C.toArray) (hn : Nat.blt d n = true)
    (K : ∀ a' w' b, Has n ((d, .slice (some ⟨b, 0, none⟩) k k) :: env) a' → w.grownBy w' none → w'.heap[b]? = some (.cells C.toArray e (0, 0)) → w.heap.size ≤ b → b < w'.heap.size → wpList P ops Q rest a' w') :
    wpList P ops Q (⟨some d, .buildSlice t k parts.toArray, ty, pos, af, none⟩ :: rest) a w := by
  have h := ha.evp parts vs hp
  have hr := run_buildSlice (P := P) (w := w) (parts := vs.toArray) (C := C) hT hsz hz hzc (by simpa [Nat.blt_eq] using hk0) (by simpa [Nat.ble_eq] using hk) (by simpa using hf)
  have hrun : (execOp a.eval ⟨some d, .buildSlice t k parts.toArray, ty, pos, af, none⟩).run P w = .ok (.value (.slice (some ⟨w.heap.size, 0, none⟩) k k)) (w.alloc (.cells C.toArray e)) := by
    have hm : (parts.toArray.map fun p => (p.1, a.eval p.2)) = vs.toArray := by rw [List.map_toArray, h]
    simp only [execOp, hm, Sem.run_bind, hr, Result.andThen_ok]; rfl
  exact sv ha hrun rfl rfl hn fun _ ha' => K _ _ _ ha' (grown_alloc w _) (heap_alloc_new w _) (Nat.le_refl _) (by simp)

/-- An array literal without a part: noughts. -/
theorem r_build0 {C : List Value} {len e : Nat} (hz : ∀ w, (zeroValue t).run P w = .ok (.agg C.toArray) w) (hT : ∀ w, (underlying t).run P w = .ok (.array len e) w) {sz : Nat} (hsz : ∀ w, (sizeOf e).run P w = .ok sz w) :
    (execOp a.eval ⟨dst, .build t #[], ty, pos, af, g⟩).run P w = .ok (.value (.agg C.toArray)) w := by
  simp [execOp, Instr.build, hz, hT, hsz, Instr.fill, Value.cells]

/-- copy of a slice over a block of one's own. -/
theorem scopy (ha : Has n env a) {e b k c bt o : Nat} {D C : List Value} {p : List Value} (hx : ev env x = some (.slice (some ⟨b, o, none⟩) k c)) (hy : ev env y = some v) (hs : Sl w v C) (ht : P.underlying t = some (.slice e)) (hsz : (P.info? e).map (·.size) = some 1)
    (hb : w.heap[b]? = some (.cells D.toArray bt (0, 0))) (hp : C.take k = p) (hfit : o + p.length ≤ D.length) (h1 : ∀ u ∈ C, u.oneCell' = true)
    (K : ∀ a' w', Has n env a' → w.grownBy w' (some b) → w'.heap[b]? = some (.cells (D.take o ++ p ++ D.drop (o + p.length)).toArray bt (0, 0)) → wpList P ops Q rest a' w') {dst : Option Nat} (hd : dst = some d) (hn : Nat.blt d n = true) (hfresh : look env d = none) :
    wpList P ops Q (⟨dst, .call ⟨.builtin .copy, #[x, y], #[t, t']⟩, ty, pos, af, none⟩ :: rest) a w := by
  subst hp
  obtain ⟨sa, cap, hv, hc, hx', hnil⟩ := hs
  have weaken : ∀ (v0 : Value) a', Has n ((d, v0) :: env) a' → Has n env a' := fun v0 a' h => ⟨h.defers, h.size, fun t u hu => h.has t u (by
    simp only [look]
    by_cases e : d = t
    · subst e; rw [hfresh] at hu; cases hu
    · rw [beq_no e]; exact hu)⟩
  by_cases h0 : (C.take k).length = 0
  · have hnil' : C.take k = [] := List.eq_nil_of_length_eq_zero h0
    have hmin : Nat.min C.length k = 0 := by rw [List.length_take] at h0; show min C.length k = 0; omega
    have hr := run_copy_none (P := P) w t t' ty e (some ⟨b, o, none⟩) sa k c C.length cap ht hsz hmin
    have hrun : (execOp a.eval ⟨dst, .call ⟨.builtin .copy, #[x, y], #[t, t']⟩, ty, pos, af, none⟩).run P w = .ok (.value (goInt 0)) w := by
      simp [execOp, resolve, ha.ev hx, ha.ev hy, hv, invoke, builtin, hr]
    refine sv ha hrun rfl hd hn fun a' ha' => K a' w (weaken _ _ ha') ⟨rfl, rfl, rfl, Nat.le_refl _, fun _ _ _ => rfl⟩ ?_
    simpa [hnil'] using hb
  · have hsome : ∃ q, sa = some q := by
      cases sa with
      | none => have := (hnil rfl).1; rw [this] at h0; simp at h0
      | some q => exact ⟨q, rfl⟩
    obtain ⟨q, rfl⟩ := hsome
    obtain ⟨h2, h3, h4⟩ := hx' q rfl
    have hq : q = ⟨q.block, q.off, none⟩ := by cases q; simp only at h2; subst h2; rfl
    have hr := run_copy_row (P := P) w t t' ty e b o k c q C.length cap D.toArray bt (C.take k) ht hsz hb (by rw [List.length_take]; show min k C.length = min C.length k; omega) (fun j u hu => by
      rw [hq, add_zero']
      rw [List.getElem?_take] at hu
      split at hu
      · exact h4 j u hu
      · cases hu) (by simpa using hfit) (fun u hu => h1 u (List.mem_of_mem_take hu))
    have hrun : (execOp a.eval ⟨dst, .call ⟨.builtin .copy, #[x, y], #[t, t']⟩, ty, pos, af, none⟩).run P w = .ok (.value (goInt (C.take k).length)) (w.setRow b (D.take o ++ C.take k ++ D.drop (o + (C.take k).length)).toArray) := by
      simp only [execOp, resolve, ha.ev hx, ha.ev hy, hv, invoke, builtin, Sem.run_bind, Sem.run_pure, Result.andThen_ok, List.map_toArray, List.map_cons, List.map_nil, hr]
    exact sv ha hrun rfl hd hn fun a' ha' => K a' _ (weaken _ _ ha') (grown_setRow w b _) (setRow_new hb)
end

section
variable {P : Program} {n : Nat} {env : Env} {a : Act} {w0 w w' : World} {dst : Option Tmp} {ty : TypeId} {pos : String} {af : Array Edge} {g : Option (Nat × Bool)} {x y z : Operand} {t t' : TypeId} {v u : Value}

/-- 'x[:]' of an array variable. -/
theorem r_sliceA (ha : Has n env a) {len e b : Nat} (hT : ∀ w, (underlying t).run P w = .ok (.array len e) w) (hsz : ∀ w, (sizeOf e).run P w = .ok 1 w) (hx : ev env x = some (.pointer (some ⟨b, 0, none⟩))) :
    (execOp a.eval ⟨dst, .slice t x none none none, ty, pos, af, g⟩).run P w = .ok (.value (.slice (some ⟨b, 0, none⟩) len len)) w := by
  simp [execOp, ha.ev hx, Instr.sliceAt, hT, hsz, Instr.sureAddr, Instr.sliceBounds, add_zero']

theorem copy_all {α : Type} {f : α → Value} {D : List Value} {l : List α} {k : Nat} (hD : D.length = k) (hl : l.length = k) : D.take 0 ++ (l.take k).map f ++ D.drop (0 + ((l.take k).map f).length) = l.map f := by
  subst hl; simp [hD]
theorem copy_map {α : Type} {f : α → Value} {D l : List α} : (D.map f).take 0 ++ l.map f ++ (D.map f).drop (0 + (l.map f).length) = (l ++ D.drop l.length).map f := by
  simp

/- Where a call may write into one block that was there: the running fact is 'w0.grownBy w (some m)'. -/
theorem keepM0 {m : Nat} (hg : w.grownBy w' none) (h : w0.grownBy w (some m)) : w0.grownBy w' (some m) :=
  ⟨hg.os.trans h.os, hg.tape.trans h.tape, hg.output.trans h.output, Nat.le_trans h.size hg.size, fun k hk hne => (hg.block k (Nat.lt_of_lt_of_le hk h.size) (by simp)).trans (h.block k hk hne)⟩
theorem keepM1 {m b : Nat} (hg : w.grownBy w' (some b)) (hb : b = m ∨ w0.heap.size ≤ b) (h : w0.grownBy w (some m)) : w0.grownBy w' (some m) :=
  ⟨hg.os.trans h.os, hg.tape.trans h.tape, hg.output.trans h.output, Nat.le_trans h.size hg.size, fun k hk hne => (hg.block k (Nat.lt_of_lt_of_le hk h.size) (by
    intro e
    rcases hb with rfl | hb
    · exact hne e
    · cases e; omega)).trans (h.block k hk hne)⟩
theorem grown_refl (w : World) (row : Option Nat) : w.grownBy w row := ⟨rfl, rfl, rfl, Nat.le_refl _, fun _ _ _ => rfl⟩
end

/-! ### append -/
section
variable {P : Program} {n : Nat} {env : Env} {a : Act} {w0 w w' : World} {dst : Option Tmp} {ty : TypeId} {pos : String} {af : Array Edge} {g : Option (Nat × Bool)} {x y z : Operand} {t t' : TypeId} {v u : Value}
variable {ops : Array Oper} {Q : Exit → Act → World → Prop} {rest : List Oper} {d : Nat} {S : World → Prop} {m i : Nat} {st r : List Nat}

theorem zc_one {z : Value} {k : Nat} (hz : z.cells = #[z]) : Builtin.zeroCells z.cells k = (List.replicate k z).toArray := by
  rw [hz]; unfold Builtin.zeroCells
  apply Array.ext
  · simp
  · intro i h1 h2; simp [Nat.mod_one]

/-- What an append yields, of one-cell elements: the destination nil, or the head of a block of one's own; the source told by 'Sl'. -/
theorem run_app {e : Nat} {ti : TypeInfo} {zv : Value} {base k : Nat} {C D : List Value} (ht : P.underlying t = some (.slice e)) (hi : P.info? e = some ti) (hz : ti.zero = some zv) (hsz : ti.size = 1) (hzc : zv.cells = #[zv])
    (hown : w.ownsRow base e 1 v k C) (hs : Sl w u D) (h1 : ∀ q ∈ D, q.oneCell' = true) (hbd : (k + D.length) * ti.bytes ≤ 140737488355328) (hbd2 : k + D.length ≤ 140737488355328) (hbase : base ≤ w.heap.size) :
    ∃ v' w', (Builtin.append_ #[t, t] ty #[v, u]).run P w = .ok v' w' ∧ w'.ownsRow base e 1 v' (k + D.length) (C ++ D) ∧ w.grownBy w' v.ownBlock ∧ (v' = .slice none 0 0 → k + D.length = 0) ∧ (∀ j, v'.ownBlock = some j → v.ownBlock = some j ∨ w.heap.size ≤ j) := by
  obtain ⟨sa, cap, hu, hc, hx, hnil⟩ := hs
  cases sa with
  | none =>
    obtain ⟨hD, hcap⟩ := hnil rfl
    subst hD; subst hcap
    have hr := run_append_owned_none (P := P) (w := w) base t ty e ti 1 ht hi v k C hown
    refine ⟨v, w, by rw [hu]; exact hr, by simpa using hown, ⟨rfl, rfl, rfl, Nat.le_refl _, fun _ _ _ => rfl⟩, fun e => ?_, fun j hj => .inl hj⟩
    rcases hown.2 with ⟨_, rfl⟩ | ⟨g, c, cur, hv, _⟩
    · rfl
    · rw [hv] at e; cases e
  | some q =>
    obtain ⟨q1, q2, q3⟩ := hx q rfl
    have hq : q = ⟨q.block, q.off, none⟩ := by cases q; simp only at q1; subst q1; rfl
    have hnews : ∀ j p, D[j]? = some p → w.cell? (q.add j) = some p := fun j p hp => by rw [hq, add_zero']; exact q3 j p hp
    have hl : D.length = D.length * ti.size := by rw [hsz, Nat.mul_one]
    have hmx : k + D.length ≤ maxLen := by unfold maxLen; omega
    rcases hown.2 with ⟨hv, hk⟩ | ⟨g, c, cur, hv, hbg, hg, hkc, hcm, hcs, htake⟩
    · subst hv; subst hk
      have hC : C = [] := List.eq_nil_of_length_eq_zero (by simpa using hown.1)
      subst hC
      by_cases h0 : D.length = 0
      · have hD : D = [] := List.eq_nil_of_length_eq_zero h0
        subst hD
        obtain ⟨v', w', hr, ho, hg, hn⟩ := run_append_own (P := P) w base t ty e ti zv 1 ti.bytes ht hi hz hsz rfl (by rw [hzc]; rfl) (by omega) _ _ _ hown q 0 cap [] (by simp) (fun j p hp => by simp at hp) (fun p hp => by simp at hp) (by simp [maxLen]) (by simp) hbase
        have hv' : v' = .slice none 0 0 := hn.2 ⟨rfl, rfl⟩
        refine ⟨v', w', by rw [hu]; exact hr, ho, hg, fun _ => by simp, fun j hj => ?_⟩
        rw [hv'] at hj; simp [Value.ownBlock] at hj
      · have hr := run_append_nil (P := P) w t ty e ti zv ht hi hz q D.length cap D hl hnews (by omega) (by omega) (by have := hbd; simp only [Nat.zero_add] at this; omega)
        have hcl : grownCap w D.length 0 e ≤ maxLen := grownCap_le_maxLen w _ _ e (by simpa using hmx)
        have hcg := grownCap_ge w D.length 0 e
        refine ⟨_, _, by rw [hu]; exact hr, ⟨by simp, .inr ⟨w.heap.size, _, _, by simp, hbase, heap_alloc_new w.drew _, by simpa using hcg, hcl, ?_, ?_⟩⟩, ⟨rfl, rfl, rfl, by simp, fun j hj _ => heap_alloc_old w.drew _ hj⟩, fun e => (by cases e), fun j hj => ?_⟩
        · rw [zc_one hzc]; simp; omega
        · simp
        · simp [Value.ownBlock] at hj; exact .inr (by omega)
    · subst hv
      by_cases hroom : k + D.length ≤ c
      · have hr := run_append_room (P := P) w t ty e ti ht hi g k c cur hg q D.length cap D hl hnews h1 hroom (by rw [hsz, Nat.mul_one]; omega)
        rw [hsz, Nat.mul_one] at hr
        refine ⟨_, _, by rw [hu]; exact hr, ⟨by simp [hown.1], .inr ⟨g, c, _, rfl, hbg, setRow_heap w g cur _ e _ hg, hroom, hcm, ?_, ?_⟩⟩, ⟨rfl, rfl, rfl, by simp, fun j _ hj => setRow_other w g j _ (fun e => hj (by simp [Value.ownBlock, e]))⟩, fun e => (by cases e), fun j hj => Or.inl hj⟩
        · simp; omega
        · have hkl : C.length = k := by have := hown.1; omega
          rw [Nat.mul_one] at htake
          simp only [Nat.mul_one, htake]
          rw [← hkl, ← List.length_append]
          exact List.take_left
      · have hr := run_append_grow (P := P) w t ty e ti zv ht hi hz ⟨g, 0, none⟩ k c C (by rw [hsz]; exact hown.1) (hown.cells (g := g) rfl) q D.length cap D hl hnews (by omega) (by omega) (growslice_fits (by omega) hbd)
        have hcl : grownCap w (k + D.length) c e ≤ maxLen := grownCap_le_maxLen w _ _ e hmx
        have hcg := grownCap_ge w (k + D.length) c e
        have hkl : C.length = k := by have := hown.1; omega
        refine ⟨_, _, by rw [hu]; exact hr, ⟨by simp [hown.1], .inr ⟨w.heap.size, _, _, rfl, hbase, heap_alloc_new w.drew _, hcg, hcl, ?_, ?_⟩⟩, ⟨rfl, rfl, rfl, by simp, fun j hj _ => heap_alloc_old w.drew _ hj⟩, fun e => (by cases e), fun j hj => ?_⟩
        · rw [zc_one hzc]; simp [hkl]; omega
        · simp only [Array.toList_append, Nat.mul_one, List.append_assoc]
          rw [← List.append_assoc, ← hkl, ← List.length_append]
          exact List.take_left
        · simp [Value.ownBlock] at hj; exact .inr (by omega)

theorem r_app (ha : Has n env a) {e : Nat} {ti : TypeInfo} {zv : Value} {base k : Nat} {C D : List Value} (hx : ev env x = some v) (hy : ev env y = some u) (ht : P.underlying t = some (.slice e)) (hi : P.info? e = some ti) (hz : ti.zero = some zv) (hsz : ti.size = 1) (hzc : zv.cells = #[zv])
    (hown : w.ownsRow base e 1 v k C) (hs : Sl w u D) (h1 : ∀ q ∈ D, q.oneCell' = true) (hbd : (k + D.length) * ti.bytes ≤ 140737488355328) (hbd2 : k + D.length ≤ 140737488355328) (hbase : base ≤ w.heap.size) :
    ∃ v' w', (execOp a.eval ⟨dst, .call ⟨.builtin .append, #[x, y], #[t, t]⟩, ty, pos, af, g⟩).run P w = .ok (.value v') w' ∧ w'.ownsRow base e 1 v' (k + D.length) (C ++ D) ∧ w.grownBy w' v.ownBlock ∧ (v' = .slice none 0 0 → k + D.length = 0) ∧ (∀ j, v'.ownBlock = some j → v.ownBlock = some j ∨ w.heap.size ≤ j) := by
  obtain ⟨v', w', hr, rest⟩ := run_app (P := P) (w := w) (ty := ty) ht hi hz hsz hzc hown hs h1 hbd hbd2 hbase
  refine ⟨v', w', ?_, rest⟩
  simp only [execOp, resolve, ha.ev hx, ha.ev hy, invoke, builtin, Sem.run_bind, Sem.run_pure, Result.andThen_ok, List.map_toArray, List.map_cons, List.map_nil, hr]

/-- append, in the walk: the destination owned. -/
theorem sapp (ha : Has n env a) {e : Nat} {ti : TypeInfo} {zv : Value} {base k : Nat} {C D : List Value} (hx : ev env x = some v) (hy : ev env y = some u) (ht : P.underlying t = some (.slice e)) (hi : P.info? e = some ti) (hz : ti.zero = some zv) (hsz : ti.size = 1) (hzc : zv.cells = #[zv])
    (hown : w.ownsRow base e 1 v k C) (hs : Sl w u D) (h1 : ∀ q ∈ D, q.oneCell' = true) (hbd : (k + D.length) * ti.bytes ≤ 140737488355328) (hbd2 : k + D.length ≤ 140737488355328) (hbase : base ≤ w.heap.size) (hn : Nat.blt d n = true)
    (K : ∀ a' w' v', Has n ((d, v') :: env) a' → w.grownBy w' v.ownBlock → w'.ownsRow base e 1 v' (k + D.length) (C ++ D) → (v' = .slice none 0 0 → k + D.length = 0) → (∀ j, v'.ownBlock = some j → v.ownBlock = some j ∨ w.heap.size ≤ j) → wpList P ops Q rest a' w') :
    wpList P ops Q (⟨some d, .call ⟨.builtin .append, #[x, y], #[t, t]⟩, ty, pos, af, none⟩ :: rest) a w := by
  obtain ⟨v', w', hr, ho, hg, hnl, hj⟩ := r_app (P := P) (w := w) (ty := ty) (pos := pos) (af := af) (dst := some d) (g := none) ha hx hy ht hi hz hsz hzc hown hs h1 hbd hbd2 hbase
  exact sv ha hr rfl rfl hn fun a' ha' => K a' w' v' ha' hg ho hnl hj

/-- An owned slice that is not empty is the head of a block. -/
theorem own_block {base e k : Nat} {C : List Value} (h : w.ownsRow base e 1 v k C) (hk : 0 < k) :
    ∃ b cap R, v = .slice (some ⟨b, 0, none⟩) k cap ∧ w.heap[b]? = some (.cells (C ++ R).toArray e (0, 0)) ∧ base ≤ b ∧ C.length = k ∧ (C ++ R).length = cap ∧ cap ≤ maxLen := by
  rcases h.2 with ⟨_, rfl⟩ | ⟨g, c, cur, hv, hbg, hg, hkc, hcm, hcs, htake⟩
  · omega
  · have hCk : C.length = k := by have := h.1; omega
    refine ⟨g, c, cur.toList.drop k, hv, ?_, hbg, hCk, ?_, hcm⟩
    · have : (C ++ cur.toList.drop k) = cur.toList := by rw [← htake, Nat.mul_one]; exact List.take_append_drop _ _
      rw [this]; simpa using hg
    · have : (C ++ cur.toList.drop k) = cur.toList := by rw [← htake, Nat.mul_one]; exact List.take_append_drop _ _
      rw [this]; simp; omega
theorem own_of_block {base e k cap b : Nat} {C R : List Value} (hb : w.heap[b]? = some (.cells (C ++ R).toArray e (0, 0))) (hk : C.length = k) (hbase : base ≤ b) (hcap : (C ++ R).length = cap) (hm : cap ≤ maxLen) :
    w.ownsRow base e 1 (.slice (some ⟨b, 0, none⟩) k cap) k C := by
  refine ⟨by omega, .inr ⟨b, cap, (C ++ R).toArray, rfl, hbase, hb, ?_, hm, by simpa using hcap, ?_⟩⟩
  · rw [List.length_append] at hcap; omega
  · subst hk; simp
theorem own_of_full {base e k b : Nat} {C : List Value} (hb : w.heap[b]? = some (.cells C.toArray e (0, 0))) (hk : C.length = k) (hbase : base ≤ b) (hm : k ≤ maxLen) :
    w.ownsRow base e 1 (.slice (some ⟨b, 0, none⟩) k k) k C := own_of_block (R := []) (by simpa using hb) hk hbase (by simpa using hk) hm
theorem Sl.ofOwns {base e k : Nat} {C : List Value} (h : w.ownsRow base e 1 v k C) : Sl w v C := by
  have hCk : C.length = k := by have := h.1; omega
  rcases h.2 with ⟨hv, hk⟩ | ⟨g, c, cur, hv, hbg, hg, hkc, hcm, hcs, htake⟩
  · have : C = [] := List.eq_nil_of_length_eq_zero (by omega)
    subst this; rw [hv]; exact Sl.nil w
  · subst hv; subst hCk
    exact Sl.ofBlock (D := cur.toList) (fr := (0, 0)) (t := e) (by simpa using hg) (by simpa using htake) hkc
theorem own_bd {base e k : Nat} {C : List Value} (h : w.ownsRow base e 1 v k C) : Bd v base w.heap.size := fun j hj => h.lt j hj

/- carrying an owned slice on -/
theorem keepW0 {base e k : Nat} {C : List Value} (hg : w.grownBy w' none) (h : w.ownsRow base e 1 v k C) : w'.ownsRow base e 1 v k C := h.kept hg (by cases v.ownBlock <;> simp)
theorem keepW1 {base e k b : Nat} {C : List Value} (hg : w.grownBy w' (some b)) (hne : v.ownBlock ≠ some b) (h : w.ownsRow base e 1 v k C) : w'.ownsRow base e 1 v k C := h.kept hg (.inr hne)
/- where the block that was written is an owned slice's -/
theorem keepBR {row : Option Nat} (hg : w.grownBy w' row) (hr : ∀ j, row = some j → w0.heap.size ≤ j) (h : Below w0.heap.size w0 w) : Below w0.heap.size w0 w' := h.grown hg h.size hr
theorem keepOR {row : Option Nat} {c : Nat} {o : Obj} (hg : w.grownBy w' row) (hne : row ≠ some c) (h : w.heap[c]? = some o) : w'.heap[c]? = some o := by
  rw [hg.block c (Array.getElem?_eq_some_iff.1 h).1 (fun e => hne e.symm)]; exact h
theorem keepSR {row : Option Nat} {C : List Value} (hg : w.grownBy w' row) (hne : ∀ j, row = some j → v.ownBlock ≠ some j) (h : Sl w v C) : Sl w' v C :=
  h.same hg.size fun k hk => hg.block k (h.lt k hk) (by intro e; exact hne k e.symm hk)
theorem keepWR {row : Option Nat} {base e k : Nat} {C : List Value} (hg : w.grownBy w' row) (hne : ∀ j, row = some j → v.ownBlock ≠ some j) (h : w.ownsRow base e 1 v k C) : w'.ownsRow base e 1 v k C :=
  h.kept hg (by
    cases hv : v.ownBlock with
    | none => exact .inl rfl
    | some k => exact .inr (fun e => hne k e.symm hv))
end

theorem get_more {α : Type} (f : α → Value) (l : List α) (R : List Value) (d : α) (i : Nat) (h : i < l.length) : (l.map f ++ R)[i]? = some (f (l.getD i d)) := by
  rw [List.getElem?_append_left (by simpa using h)]; exact get_map f l d i h
theorem set_more {α : Type} (f : α → Value) (l : List α) (R : List Value) (i : Nat) (x : α) (h : i < l.length) : (l.map f ++ R).set i (f x) = (l.set i x).map f ++ R := by
  rw [List.set_append_left _ _ (by simpa using h), set_map]

/-! ### Parts of slices -/
def rsl (v : Value) (lo hi : Nat) : Value :=
  match v with
  | .slice a _ cap => .slice (if cap = lo then a else a.map (·.add lo)) (hi - lo) (cap - lo)
  | x => x
def rsl3 (v : Value) (lo hi mx : Nat) : Value :=
  match v with
  | .slice a _ _ => .slice (if mx = lo then a else a.map (·.add lo)) (hi - lo) (mx - lo)
  | x => x
def optn (env : Env) (o : Option Operand) (dflt k : Nat) : Prop :=
  match o with
  | none => k = dflt
  | some x => ev env x = some (en k)

section
variable {P : Program} {n : Nat} {env : Env} {a : Act} {w0 w w' : World} {dst : Option Tmp} {ty : TypeId} {pos : String} {af : Array Edge} {g : Option (Nat × Bool)} {x y z : Operand} {t t' : TypeId} {v u : Value}

theorem run_bounds (ha : Has n env a) {ol oh : Option Operand} {len cap lo hi : Nat} (hlo : optn env ol 0 lo) (hhi : optn env oh len hi) (h1 : lo ≤ hi) (h2 : hi ≤ cap) :
    (Instr.sliceBounds true len cap (ol.map a.eval) (oh.map a.eval) none).run P w = .ok (lo, hi, cap) w := by
  cases ol with
  | none =>
    simp only [optn] at hlo; subst hlo
    cases oh with
    | none => simp only [optn] at hhi; subst hhi; simp [Instr.sliceBounds]
    | some q =>
      simp only [optn] at hhi
      have e : (0 : Int) ≤ (hi : Int) ∧ (hi : Int) ≤ (cap : Int) := ⟨by omega, by omega⟩
      simp [Instr.sliceBounds, ha.ev hhi, Instr.sliceBound, asIntOf, h2]
  | some p =>
    simp only [optn] at hlo
    cases oh with
    | none =>
      simp only [optn] at hhi; subst hhi
      simp [Instr.sliceBounds, ha.ev hlo, Instr.sliceBound, asIntOf, h1]
    | some q =>
      simp only [optn] at hhi
      simp [Instr.sliceBounds, ha.ev hlo, ha.ev hhi, Instr.sliceBound, asIntOf, h1, h2]
theorem run_bounds3 (ha : Has n env a) {ol : Option Operand} {q r : Operand} {len cap lo hi mx : Nat} (hlo : optn env ol 0 lo) (hhi : ev env q = some (en hi)) (hmx : ev env r = some (en mx)) (h1 : lo ≤ hi) (h2 : hi ≤ mx) (h3 : mx ≤ cap) :
    (Instr.sliceBounds true len cap (ol.map a.eval) (some (a.eval q)) (some (a.eval r))).run P w = .ok (lo, hi, mx) w := by
  cases ol with
  | none => simp only [optn] at hlo; subst hlo; simp [Instr.sliceBounds, ha.ev hhi, ha.ev hmx, Instr.sliceBound, asIntOf, h2, h3]
  | some p => simp only [optn] at hlo; simp [Instr.sliceBounds, ha.ev hlo, ha.ev hhi, ha.ev hmx, Instr.sliceBound, asIntOf, h1, h2, h3]

theorem r_resl (ha : Has n env a) {ol oh : Option Operand} {e : Nat} {C : List Value} (lo hi : Nat) (hT : ∀ w, (underlying t).run P w = .ok (.slice e) w) (hsz : ∀ w, (sizeOf e).run P w = .ok 1 w) (hs : Sl w v C) (hx : ev env x = some v) (hlo : optn env ol 0 lo) (hhi : optn env oh C.length hi) (h1 : lo ≤ hi) (h2 : hi ≤ C.length) :
    (execOp a.eval ⟨dst, .slice t x ol oh none, ty, pos, af, g⟩).run P w = .ok (.value (rsl v lo hi)) w := by
  obtain ⟨b, cap, hv, hc, -⟩ := hs
  have hb := run_bounds (P := P) (w := w) (len := C.length) (cap := cap) ha hlo hhi h1 (by omega)
  simp only [execOp, ha.ev hx, hv, Instr.sliceAt, Instr.slice, hT, hsz, Sem.run_bind, Result.andThen_ok, hb, Nat.mul_one, Option.map_none, rsl]
  simp
theorem r_resl3 (ha : Has n env a) {ol : Option Operand} {q r : Operand} {e : Nat} {C : List Value} (lo hi mx : Nat) (hT : ∀ w, (underlying t).run P w = .ok (.slice e) w) (hsz : ∀ w, (sizeOf e).run P w = .ok 1 w) (hs : Sl w v C) (hx : ev env x = some v) (hlo : optn env ol 0 lo) (hhi : ev env q = some (en hi)) (hmx : ev env r = some (en mx)) (h1 : lo ≤ hi) (h2 : hi ≤ mx) (h3 : mx ≤ C.length) :
    (execOp a.eval ⟨dst, .slice t x ol (some q) (some r), ty, pos, af, g⟩).run P w = .ok (.value (rsl3 v lo hi mx)) w := by
  obtain ⟨b, cap, hv, hc, -⟩ := hs
  have hb := run_bounds3 (P := P) (w := w) (len := C.length) (cap := cap) ha hlo hhi hmx h1 h2 (by omega)
  simp only [execOp, ha.ev hx, hv, Instr.sliceAt, Instr.slice, hT, hsz, Sem.run_bind, Result.andThen_ok, hb, Nat.mul_one, Option.map_some, rsl3]
  simp
theorem r_reslB (ha : Has n env a) {oh : Option Operand} {e b k cap : Nat} (hi : Nat) (hT : ∀ w, (underlying t).run P w = .ok (.slice e) w) (hsz : ∀ w, (sizeOf e).run P w = .ok 1 w) (hx : ev env x = some (.slice (some ⟨b, 0, none⟩) k cap)) (hhi : optn env oh k hi) (h2 : hi ≤ cap) :
    (execOp a.eval ⟨dst, .slice t x none oh none, ty, pos, af, g⟩).run P w = .ok (.value (.slice (some ⟨b, 0, none⟩) hi cap)) w := by
  have hb := run_bounds (P := P) (w := w) (len := k) (cap := cap) (ol := none) (lo := 0) ha rfl hhi (by omega) h2
  simp only [Option.map_none] at hb
  simp only [execOp, ha.ev hx, Instr.sliceAt, Instr.slice, hT, hsz, Sem.run_bind, Result.andThen_ok, hb, Nat.mul_one, Option.map_none]
  simp [add_zero']

theorem Sl.cut {C : List Value} (h : Sl w v C) {lo hi : Nat} (h1 : lo ≤ hi) (h2 : hi ≤ C.length) : Sl w (rsl v lo hi) ((C.drop lo).take (hi - lo)) := by
  obtain ⟨b, cap, hv, hc, hx, hn⟩ := h
  have hlen : ((C.drop lo).take (hi - lo)).length = hi - lo := by simp; omega
  subst hv
  refine ⟨_, cap - lo, by rw [hlen]; rfl, by omega, fun q hq => ?_, fun e => ?_⟩
  · by_cases hcl : cap = lo
    · rw [if_pos hcl] at hq
      obtain ⟨q1, q2, q3⟩ := hx q hq
      refine ⟨q1, q2, fun j u hu => ?_⟩
      have : hi - lo = 0 := by omega
      rw [this] at hu; simp at hu
    · rw [if_neg hcl] at hq
      cases b with
      | none => simp at hq
      | some p =>
        obtain ⟨q1, q2, q3⟩ := hx p rfl
        simp only [Option.map_some, Option.some.injEq] at hq
        have hp : p = ⟨p.block, p.off, none⟩ := by cases p; simp only at q1; subst q1; rfl
        rw [hp, add_zero'] at hq
        subst hq
        refine ⟨rfl, q2, fun j u hu => ?_⟩
        rw [List.getElem?_take] at hu
        split at hu
        · rw [List.getElem?_drop] at hu
          have := q3 (lo + j) u hu
          simpa [Nat.add_assoc] using this
        · cases hu
  · cases b with
    | none => obtain ⟨hC, hcap⟩ := hn rfl; subst hC; simp [hcap]
    | some p => split at e <;> simp at e
theorem Sl.cutM {α : Type} {f : α → Value} {l : List α} (h : Sl w v (l.map f)) {lo hi : Nat} (h1 : lo ≤ hi) (h2 : hi ≤ l.length) : Sl w (rsl v lo hi) (((l.drop lo).take (hi - lo)).map f) := by
  have := h.cut h1 (by simpa using h2)
  rwa [← List.map_drop, ← List.map_take] at this
theorem Sl.cut3M {α : Type} {f : α → Value} {l : List α} (h : Sl w v (l.map f)) {lo hi mx : Nat} (h1 : lo ≤ hi) (h2 : hi ≤ mx) (h3 : mx ≤ l.length) : Sl w (rsl3 v lo hi mx) (((l.drop lo).take (hi - lo)).map f) := by
  obtain ⟨b, cap, hv, hc, hx, hn⟩ := h
  rw [List.length_map] at hv hc
  have hlen : (((l.drop lo).take (hi - lo)).map f).length = hi - lo := by simp; omega
  subst hv
  refine ⟨_, mx - lo, by rw [hlen]; rfl, by omega, fun q hq => ?_, fun e => ?_⟩
  · by_cases hcl : mx = lo
    · rw [if_pos hcl] at hq
      obtain ⟨q1, q2, q3⟩ := hx q hq
      refine ⟨q1, q2, fun j u hu => ?_⟩
      have : hi - lo = 0 := by omega
      rw [this] at hu; simp at hu
    · rw [if_neg hcl] at hq
      cases b with
      | none => simp at hq
      | some p =>
        obtain ⟨q1, q2, q3⟩ := hx p rfl
        simp only [Option.map_some, Option.some.injEq] at hq
        have hp : p = ⟨p.block, p.off, none⟩ := by cases p; simp only at q1; subst q1; rfl
        rw [hp, add_zero'] at hq
        subst hq
        refine ⟨rfl, q2, fun j u hu => ?_⟩
        rw [List.map_take, List.map_drop, List.getElem?_take] at hu
        split at hu
        · rw [List.getElem?_drop] at hu
          have := q3 (lo + j) u hu
          simpa [Nat.add_assoc] using this
        · cases hu
  · cases b with
    | none =>
      obtain ⟨hC, hcap⟩ := hn rfl
      have : l = [] := by simpa using hC
      subst this; simp at h3; simp; omega
    | some p => split at e <;> simp at e
theorem own_rsl (lo hi : Nat) : ∀ j, (rsl v lo hi).ownBlock = some j → v.ownBlock = some j := by
  intro j hj
  unfold rsl at hj
  cases v <;> try exact hj
  rename_i b k cap
  simp only at hj
  split at hj
  · cases b with
    | none => simp [Value.ownBlock] at hj
    | some p => simpa [Value.ownBlock] using hj
  · cases b with
    | none => simp [Value.ownBlock] at hj
    | some p => simp [Value.ownBlock, Addr.add] at hj ⊢; split at hj <;> simpa using hj
theorem Bd.rsl {lo hi p q : Nat} (h : Bd v p q) : Bd (Rx.rsl v lo hi) p q := fun j hj => h j (own_rsl lo hi j hj)
theorem own_rsl3 (lo hi mx : Nat) : ∀ j, (rsl3 v lo hi mx).ownBlock = some j → v.ownBlock = some j := by
  intro j hj
  unfold rsl3 at hj
  cases v <;> try exact hj
  rename_i b k cap
  simp only at hj
  split at hj
  · cases b with
    | none => simp [Value.ownBlock] at hj
    | some p => simpa [Value.ownBlock] using hj
  · cases b with
    | none => simp [Value.ownBlock] at hj
    | some p => simp [Value.ownBlock, Addr.add] at hj ⊢; split at hj <;> simpa using hj
end
end Go.Rx
