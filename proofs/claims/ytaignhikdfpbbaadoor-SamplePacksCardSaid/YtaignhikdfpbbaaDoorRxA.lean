/- A small calculus for walking Go functions: a frame is told by a list of its known slots ('Has'), an operation by one equation on its run, a region that draws its order by one canonical order that a Bool checks ('canonB'). No dump is imported here. -/
import Derived.WalkKit
import Derived.OrdersHeld
import Derived.Deep.RegionHeld3
namespace Go.Rx
open Go.RowKit

abbrev Env := List (Nat × Value)

def look : Env → Nat → Option Value
  | [], _ => none
  | p :: r, t => bif Nat.beq p.1 t then some p.2 else look r t

theorem beq_no {i j : Nat} (h : ¬ i = j) : Nat.beq i j = false := by
  cases e : Nat.beq i j with
  | false => rfl
  | true => exact absurd (Nat.eq_of_beq_eq_true e) h

/-- What is known of a frame: its size, that nothing is deferred, and what some of its slots hold (the first entry of a slot counts). -/
structure Has (n : Nat) (env : Env) (a : Act) : Prop where
  defers : a.defers = []
  size : a.tmps.size = n
  has : ∀ t v, look env t = some v → a.tmps[t]? = some v

def ev (env : Env) : Operand → Option Value
  | .tmp t => look env t
  | .const v => some v
  | .global g => some (.pointer (some ⟨g, 0, none⟩))
  | .func f => some (.func (.func f) #[] #[])

section
variable {n : Nat} {env : Env} {a : Act} {v : Value}

theorem Has.ev {x : Operand} (h : Has n env a) (hx : Rx.ev env x = some v) : a.eval x = v := by
  cases x with
  | tmp t => simp only [Rx.ev] at hx; simp [Act.eval, Array.getD_eq_getD_getElem?, h.has t v hx]
  | const u => simpa [Rx.ev, Act.eval] using hx
  | global g => simpa [Rx.ev, Act.eval] using hx
  | func f => simpa [Rx.ev, Act.eval] using hx

theorem Has.put {d : Nat} (h : Has n env a) (hd : Nat.blt d n = true) (v : Value) : Has n ((d, v) :: env) (a.put (some d) v) := by
  have hd' : d < n := by simpa [Nat.blt_eq] using hd
  refine ⟨h.defers, by simp [Act.put, h.size], fun t u hu => ?_⟩
  simp only [look] at hu
  by_cases e : d = t
  · subst e
    have hb : Nat.beq d d = true := Nat.beq_refl d
    rw [hb] at hu
    simp only [cond_true, Option.some.injEq] at hu
    subst hu
    simp [Act.put, h.size, hd']
  · have hb : Nat.beq d t = false := beq_no e
    rw [hb] at hu
    simp only [cond_false] at hu
    simp only [Act.put]
    rw [Array.getElem?_setIfInBounds_ne e]
    exact h.has t u hu

def pick : List Nat → Env → Env
  | [], _ => []
  | t :: ts, env => match look env t with
    | some v => (t, v) :: pick ts env
    | none => pick ts env

theorem look_pick : ∀ (ts : List Nat) (t : Nat) (u : Value), look (pick ts env) t = some u → look env t = some u
  | [], _, _, h => by simp [pick, look] at h
  | s :: ts, t, u, h => by
    simp only [pick] at h
    split at h
    · rename_i v hv
      simp only [look] at h
      by_cases e : s = t
      · subst e; rw [Nat.beq_refl] at h; simp at h; subst h; exact hv
      · have hb : Nat.beq s t = false := beq_no e
        rw [hb] at h; exact look_pick ts t u h
    · exact look_pick ts t u h

theorem Has.pick (h : Has n env a) (ts : List Nat) : Has n (Rx.pick ts env) a := ⟨h.defers, h.size, fun t u hu => h.has t u (look_pick ts t u hu)⟩

/-- To a list typed out: each slot is looked up. -/
theorem Has.to {env' : Env} (h : Has n env a) (ts : List Nat) (e : Rx.pick ts env = env') : Has n env' a := e ▸ h.pick ts

def initEnv : List Value → Nat → Env
  | [], _ => []
  | v :: r, i => (i, v) :: initEnv r (i + 1)

theorem look_init : ∀ (l : List Value) (i t : Nat) (u : Value), look (initEnv l i) t = some u → i ≤ t ∧ l[t - i]? = some u
  | [], _, _, _, h => by simp [initEnv, look] at h
  | v :: r, i, t, u, h => by
    simp only [initEnv, look] at h
    by_cases e : i = t
    · subst e; rw [Nat.beq_refl] at h; simp at h; subst h; simp
    · have hb : Nat.beq i t = false := beq_no e
      rw [hb] at h
      obtain ⟨h1, h2⟩ := look_init r (i + 1) t u h
      refine ⟨by omega, ?_⟩
      rw [show t - i = (t - (i + 1)) + 1 by omega, List.getElem?_cons_succ]; exact h2

/-- The frame in which a call begins. -/
theorem Has.init (args : List Value) (m : Nat) (hm : args.length ≤ m) : Has m (initEnv args 0) { tmps := args.toArray ++ Array.replicate (m - args.toArray.size) undef, defers := [] } := by
  refine ⟨rfl, by simp; omega, fun t u hu => ?_⟩
  obtain ⟨_, h⟩ := look_init args 0 t u hu
  simp only [Nat.sub_zero] at h
  have hl : t < args.length := (List.getElem?_eq_some_iff.1 h).1
  rw [Array.getElem?_append, if_pos (by simpa using hl)]
  simpa using h

theorem enter {P : Program} {f : FuncId} {fn : Func} {c : Code} {args : List Value} {w : World} {R : Ending → World → Prop} {m : Nat}
    (hf : P.funcs[f]? = some fn) (hb : fn.body = some c) (hn : fn.ntmps = m) (hm : Nat.ble args.length m = true)
    (h : ∀ a, Has m (initEnv args 0) a → c.wp P (bodyPost P fn R) a w) : Calls P f args.toArray w R := by
  refine calls_of_wp hf hb (h _ ?_)
  subst hn
  exact Has.init args _ (by simpa [Nat.ble_eq] using hm)
end

section
variable {P : Program} {ops : Array Oper} {Q : Exit → Act → World → Prop} {a : Act} {w w' : World} {rest : List Oper} {o : Oper} {n : Nat} {env : Env} {v : Value}

theorem wanted_none (hg : o.guard = none) (y : Nat → Option Bool) : Region.wanted o y = true := by simp [Region.wanted, hg]

/-- One operation that yields a value. -/
theorem sv (ha : Has n env a) {d : Nat} (hrun : (execOp a.eval o).run P w = .ok (.value v) w') (hg : o.guard = none) (hd : o.dst = some d) (hn : Nat.blt d n = true)
    (k : ∀ a', Has n ((d, v) :: env) a' → wpList P ops Q rest a' w') : wpList P ops Q (o :: rest) a w := by
  unfold wpList
  rw [if_pos (wanted_none hg _)]
  refine .inl ?_
  unfold Oper.wp
  rw [hrun, Oper.upon_value, hd]
  exact k _ (ha.put hn v)

/-- One that yields none (a store). -/
theorem ss (ha : Has n env a) (hrun : (execOp a.eval o).run P w = .ok .skip w') (hg : o.guard = none) (hd : o.dst = none)
    (k : ∀ a', Has n env a' → wpList P ops Q rest a' w') : wpList P ops Q (o :: rest) a w := by
  unfold wpList
  rw [if_pos (wanted_none hg _)]
  refine .inl ?_
  unfold Oper.wp
  rw [hrun, Oper.upon_skip, hd]
  exact k _ ha

/-- A value that nobody takes. -/
theorem sv0 (ha : Has n env a) (hrun : (execOp a.eval o).run P w = .ok (.value v) w') (hg : o.guard = none) (hd : o.dst = none)
    (k : ∀ a', Has n env a' → wpList P ops Q rest a' w') : wpList P ops Q (o :: rest) a w := by
  unfold wpList
  rw [if_pos (wanted_none hg _)]
  refine .inl ?_
  unfold Oper.wp
  rw [hrun, Oper.upon_value, hd]
  exact k _ ha

/-- A call. -/
theorem sc (ha : Has n env a) {d : Nat} {f : FuncId} {args : Array Value} {R : Ending → World → Prop} (hrun : (execOp a.eval o).run P w = .ok (.enter f args) w') (hg : o.guard = none) (hd : o.dst = some d) (hn : Nat.blt d n = true)
    (hc : Calls P f args w' R) (k : ∀ e w'', R e w'' → ∃ v, e = .returned v ∧ ∀ a', Has n ((d, v) :: env) a' → wpList P ops Q rest a' w'') : wpList P ops Q (o :: rest) a w := by
  unfold wpList
  rw [if_pos (wanted_none hg _)]
  refine .inl ?_
  unfold Oper.wp
  rw [hrun, Oper.upon_enter, hd]
  refine hc.mono fun e w'' hR => ?_
  obtain ⟨v, rfl, k'⟩ := k e w'' hR
  exact k' _ (ha.put hn v)

/-- A call whose result nobody takes. -/
theorem sc0 (ha : Has n env a) {f : FuncId} {args : Array Value} {R : Ending → World → Prop} (hrun : (execOp a.eval o).run P w = .ok (.enter f args) w') (hg : o.guard = none) (hd : o.dst = none)
    (hc : Calls P f args w' R) (k : ∀ e w'', R e w'' → ∃ v, e = .returned v ∧ ∀ a', Has n env a' → wpList P ops Q rest a' w'') : wpList P ops Q (o :: rest) a w := by
  unfold wpList
  rw [if_pos (wanted_none hg _)]
  refine .inl ?_
  unfold Oper.wp
  rw [hrun, Oper.upon_enter, hd]
  refine hc.mono fun e w'' hR => ?_
  obtain ⟨v, rfl, k'⟩ := k e w'' hR
  exact k' _ ha

/-- What the guard of an operation looks at: the slot of another one holds a Bool. -/
theorem yielded_of (ha : Has n env a) {j s : Nat} {b : Bool} (hj : (ops[j]?).bind (·.dst) = some s) (hs : look env s = some (.bool b)) : yielded ops a.tmps j = some b := by
  have h := ha.has s _ hs
  unfold yielded
  simp only [hj]
  simp [h]

/-- An operation whose guard says no is passed over. -/
theorem sno (ha : Has n env a) {d j s : Nat} {b want : Bool} (hg : o.guard = some (j, want)) (hj : (ops[j]?).bind (·.dst) = some s) (hs : look env s = some (.bool b)) (hne : b = !want) (hd : o.dst = some d) (hn : Nat.blt d n = true)
    (k : ∀ a', Has n ((d, undef) :: env) a' → wpList P ops Q rest a' w) : wpList P ops Q (o :: rest) a w := by
  have hy := yielded_of (ops := ops) ha hj hs
  unfold wpList
  rw [if_neg (by simp [Region.wanted, hg, hy, hne]), hd]
  exact k _ (ha.put hn undef)

theorem guard_yes (ha : Has n env a) {j s : Nat} {want : Bool} (hg : o.guard = some (j, want)) (hj : (ops[j]?).bind (·.dst) = some s) (hs : look env s = some (.bool want)) : Region.wanted o (yielded ops a.tmps) = true := by
  have hy := yielded_of (ops := ops) ha hj hs
  simp [Region.wanted, hg, hy]

theorem svg (ha : Has n env a) {d j s : Nat} {want : Bool} (hrun : (execOp a.eval o).run P w = .ok (.value v) w') (hg : o.guard = some (j, want)) (hj : (ops[j]?).bind (·.dst) = some s) (hs : look env s = some (.bool want)) (hd : o.dst = some d) (hn : Nat.blt d n = true)
    (k : ∀ a', Has n ((d, v) :: env) a' → wpList P ops Q rest a' w') : wpList P ops Q (o :: rest) a w := by
  unfold wpList
  rw [if_pos (guard_yes ha hg hj hs)]
  refine .inl ?_
  unfold Oper.wp
  rw [hrun, Oper.upon_value, hd]
  exact k _ (ha.put hn v)

theorem scg (ha : Has n env a) {d j s : Nat} {want : Bool} {f : FuncId} {args : Array Value} {R : Ending → World → Prop} (hrun : (execOp a.eval o).run P w = .ok (.enter f args) w') (hg : o.guard = some (j, want)) (hj : (ops[j]?).bind (·.dst) = some s) (hs : look env s = some (.bool want)) (hd : o.dst = some d) (hn : Nat.blt d n = true)
    (hc : Calls P f args w' R) (k : ∀ e w'', R e w'' → ∃ v, e = .returned v ∧ ∀ a', Has n ((d, v) :: env) a' → wpList P ops Q rest a' w'') : wpList P ops Q (o :: rest) a w := by
  unfold wpList
  rw [if_pos (guard_yes ha hg hj hs)]
  refine .inl ?_
  unfold Oper.wp
  rw [hrun, Oper.upon_enter, hd]
  refine hc.mono fun e w'' hR => ?_
  obtain ⟨v, rfl, k'⟩ := k e w'' hR
  exact k' _ (ha.put hn v)

theorem region {id : Nat} {l : List Oper} (h : wpList P l.toArray Q l a w) : (Code.region id l.toArray false).wp P Q a w := wp_region_lit h

theorem fin (h : Q .normal a w) : wpList P ops Q [] a w := h
end

/-! ### Code -/
section
variable {P : Program} {Q : Exit → Act → World → Prop} {a : Act} {w : World} {n : Nat} {env : Env}

theorem cond_t {c : Operand} {x y : Code} (ha : Has n env a) (hc : ev env c = some (.bool true)) (h : x.wp P Q a w) : (Code.cond c x y).wp P Q a w := wp_cond_true (ha.ev hc) h
theorem cond_f {c : Operand} {x y : Code} (ha : Has n env a) (hc : ev env c = some (.bool false)) (h : y.wp P Q a w) : (Code.cond c x y).wp P Q a w := wp_cond_false (ha.ev hc) h
theorem cond_if {c : Operand} {x y : Code} {b : Bool} (ha : Has n env a) (hc : ev env c = some (.bool b)) (ht : b = true → x.wp P Q a w) (hf : b = false → y.wp P Q a w) : (Code.cond c x y).wp P Q a w :=
  wp_cond_split (ha.ev hc) ht hf

theorem x_same {id : Nat} (h : Q .normal a w) : Exit.inBlock id Q (.exit id) a w := by simpa [Exit.inBlock] using h
theorem x_other {id id' : Nat} (hne : Nat.beq id' id = false) (h : Q (.exit id') a w) : Exit.inBlock id Q (.exit id') a w := by
  have : id' ≠ id := by intro e; subst e; simp at hne
  simpa [Exit.inBlock, this] using h
theorem x_norm {id : Nat} (h : Q .normal a w) : Exit.inBlock id Q .normal a w := h
theorem x_ret {id : Nat} (h : Q .ret a w) : Exit.inBlock id Q .ret a w := h
theorem t_norm {next : Act → World → Prop} (h : next a w) : Exit.then next Q .normal a w := h
theorem t_exit {next : Act → World → Prop} {id : Nat} (h : Q (.exit id) a w) : Exit.then next Q (.exit id) a w := h
theorem t_ret {next : Act → World → Prop} (h : Q .ret a w) : Exit.then next Q .ret a w := h

/-- A loop, its measure on a ghost. -/
theorem loopG {c : Code} {G : Type} (I : G → Act → World → Prop) (μ : G → Nat) (g0 : G) (h₀ : I g0 a w)
    (round : ∀ g a w, I g a w → c.wp P (Exit.then (fun a' w' => ∃ g', μ g' < μ g ∧ I g' a' w') Q) a w) : (Code.loop c).wp P Q a w := by
  intro b k cs
  have key : ∀ m g a w, μ g = m → I g a w →
      ∃ e a' w', Q e a' w' ∧ Arrives P (lone (b.at a (.code c :: .inLoop c :: k)) cs w) b k cs e a' w' := by
    intro m
    induction m using Nat.strongRecOn with
    | _ m ih =>
      intro g a w hm hI
      obtain ⟨e, a₁, w₁, hq, harr⟩ := round g a w hI b (.inLoop c :: k) cs
      cases e with
      | normal =>
        obtain ⟨g', hlt, hI₁⟩ := hq
        obtain ⟨e₂, a₂, w₂, hq₂, harr₂⟩ := ih (μ g') (hm ▸ hlt) g' a₁ w₁ rfl hI₁
        exact ⟨e₂, a₂, w₂, hq₂, .of_steps (Steps.trans harr (.one step_inLoop)) harr₂⟩
      | exit id => exact ⟨_, a₁, w₁, hq, .pass (x := .inLoop c) rfl (fun _ _ => .inl (by simp)) harr⟩
      | goto l => exact ⟨_, a₁, w₁, hq, .pass (x := .inLoop c) rfl (fun _ _ => .inl (by simp)) harr⟩
      | ret => exact ⟨_, a₁, w₁, hq, .pass (x := .inLoop c) rfl (fun _ _ => .inl (by simp)) harr⟩
      | panic ch => exact ⟨_, a₁, w₁, hq, .pass (x := .inLoop c) rfl (fun _ _ => .inl (by simp)) harr⟩
      | outgrown => exact ⟨_, a₁, w₁, hq, .pass (x := .inLoop c) rfl (fun _ _ => .inl (by simp)) harr⟩
  obtain ⟨e, a', w', hq, harr⟩ := key _ g0 a w rfl h₀
  exact ⟨e, a', w', hq, .of_steps (.one step_loop) harr⟩

/-- The end of a function with one result in a slot. -/
theorem ret1 {fn : Func} {R : Ending → World → Prop} {t : Tmp} {v : Value} (ha : Has n env a) (hr : fn.results = #[.tmp t]) (hv : look env t = some v) (h : R (.returned v) w) : bodyPost P fn R .ret a w := by
  refine ⟨ha.defers, v, ?_, h⟩
  rw [results_tmp hr]
  simp [Array.getD_eq_getD_getElem?, ha.has t v hv]

theorem ret2 {fn : Func} {R : Ending → World → Prop} {t u : Tmp} {v x : Value} (ha : Has n env a) (hr : fn.results = #[.tmp t, .tmp u]) (hv : look env t = some v) (hx : look env u = some x) (h : R (.returned (.tuple #[v, x])) w) : bodyPost P fn R .ret a w := by
  refine ⟨ha.defers, .tuple #[v, x], ?_, h⟩
  rw [results_tmp2 hr]
  simp [Array.getD_eq_getD_getElem?, ha.has t v hv, ha.has u x hx]

theorem ret0 {fn : Func} {R : Ending → World → Prop} (ha : Has n env a) (hr : fn.results = #[]) (h : R (.returned (.tuple #[])) w) : bodyPost P fn R .ret a w :=
  ⟨ha.defers, .tuple #[], results_none hr _ _ _, h⟩
theorem end0 {fn : Func} {R : Ending → World → Prop} (ha : Has n env a) (hr : fn.results = #[]) (h : R (.returned (.tuple #[])) w) : bodyPost P fn R .normal a w :=
  ⟨ha.defers, .tuple #[], results_none hr _ _ _, h⟩

theorem run_results3 {fn : Func} {t u s : Tmp} (h : fn.results = #[.tmp t, .tmp u, .tmp s]) (tmps : Array Value) (P : Program) (w : World) :
    (results fn tmps).run P w = .ok (.tuple #[tmps.getD t undef, tmps.getD u undef, tmps.getD s undef]) w := by
  simp [results, h]

theorem ret3 {fn : Func} {R : Ending → World → Prop} {t u s : Tmp} {v x y : Value} (ha : Has n env a) (hr : fn.results = #[.tmp t, .tmp u, .tmp s]) (hv : look env t = some v) (hx : look env u = some x) (hy : look env s = some y) (h : R (.returned (.tuple #[v, x, y])) w) : bodyPost P fn R .ret a w := by
  refine ⟨ha.defers, .tuple #[v, x, y], ?_, h⟩
  rw [run_results3 hr]
  simp [Array.getD_eq_getD_getElem?, ha.has t v hv, ha.has u x hx, ha.has s y hy]

/-- One result that lies in a block (an array, a struct). -/
theorem retC {fn : Func} {R : Ending → World → Prop} {p : Tmp} {ty g t : Nat} {C : List Value} (d : TypeDesc) (ha : Has n env a) (hr : fn.results = #[.cell p ty]) (hp : look env p = some (.pointer (some ⟨g, 0, none⟩)))
    (hg : w.heap[g]? = some (.cells C.toArray t (0, 0))) (hu : P.underlying ty = some d) (hd : (match d with | .struct _ | .array _ _ => true | _ => false) = true) (hi : (P.info? ty).map (·.size) = some C.length)
    (h : R (.returned (.agg C.toArray)) w) : bodyPost P fn R .ret a w := by
  refine ⟨ha.defers, .agg C.toArray, ?_, h⟩
  exact results_cell_row hr a.tmps w g t C.toArray (0, 0) d (by simp [Array.getD_eq_getD_getElem?, ha.has p _ hp]) hg hu hd (by simpa using hi)
end
end Go.Rx
