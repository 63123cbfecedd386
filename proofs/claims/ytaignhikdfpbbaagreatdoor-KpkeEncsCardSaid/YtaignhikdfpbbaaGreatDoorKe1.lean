/- Texts of this claim, one behind the other: RxA, RxB, RxC, RxD, Pk, RxE, RxF, RxG, RxH, RxS, Zk, K0, Z1, Na, Nk, Nl, Nm, Nw. -/
import Derived.WalkKit
import Derived.OrdersHeld
import Derived.Deep.RegionHeld3
import Derived.Laws.CopyOwn
import Derived.KernelRfl
import Derived.Test.YtaignhikdfpbbaaGreatDoorRows
set_option linter.unusedVariables false
set_option linter.unusedSimpArgs false
/- A small calculus for walking Go functions: a frame is told by a list of its known slots ('Has'), an operation by one equation on its run, a region that draws its order by one canonical order that a Bool checks ('canonB'). No dump is imported here. -/
namespace Go.Rx
open Go.RowKit

abbrev Env := List (Nat × Value)

def look : Env → Nat → Option Value
  | [], _ => none
  | p :: r, t => bif Nat.beq p.1 t then some p.2 else look r t

theorem beq_no {i j : Nat} (h : ¬ i = j) : Nat.beq i j = false := by
  cases e : Nat.beq i j with
  | false => rfl
  | true => exact absurd (Nat.eq_of_beq_eq_true e) h

/-- What is known of a frame: its size, that nothing is deferred, and what some of its slots hold (the first entry of a slot counts). -/
structure Has (n : Nat) (env : Env) (a : Act) : Prop where
  defers : a.defers = []
  size : a.tmps.size = n
  has : ∀ t v, look env t = some v → a.tmps[t]? = some v

def ev (env : Env) : Operand → Option Value
  | .tmp t => look env t
  | .const v => some v
  | .global g => some (.pointer (some ⟨g, 0, none⟩))
  | .func f => some (.func (.func f) #[] #[])

section
variable {n : Nat} {env : Env} {a : Act} {v : Value}

theorem Has.ev {x : Operand} (h : Has n env a) (hx : Rx.ev env x = some v) : a.eval x = v := by
  cases x with
  | tmp t => simp only [Rx.ev] at hx; simp [Act.eval, Array.getD_eq_getD_getElem?, h.has t v hx]
  | const u => simpa [Rx.ev, Act.eval] using hx
  | global g => simpa [Rx.ev, Act.eval] using hx
  | func f => simpa [Rx.ev, Act.eval] using hx

theorem Has.put {d : Nat} (h : Has n env a) (hd : Nat.blt d n = true) (v : Value) : Has n ((d, v) :: env) (a.put (some d) v) := by
  have hd' : d < n := by simpa [Nat.blt_eq] using hd
  refine ⟨h.defers, by simp [Act.put, h.size], fun t u hu => ?_⟩
  simp only [look] at hu
  by_cases e : d = t
  · subst e
    have hb : Nat.beq d d = true := Nat.beq_refl d
    rw [hb] at hu
    simp only [cond_true, Option.some.injEq] at hu
    subst hu
    simp [Act.put, h.size, hd']
  · have hb : Nat.beq d t = false := beq_no e
    rw [hb] at hu
    simp only [cond_false] at hu
    simp only [Act.put]
    rw [Array.getElem?_setIfInBounds_ne e]
    exact h.has t u hu

def pick : List Nat → Env → Env
  | [], _ => []
  | t :: ts, env => match look env t with
    | some v => (t, v) :: pick ts env
    | none => pick ts env

theorem look_pick : ∀ (ts : List Nat) (t : Nat) (u : Value), look (pick ts env) t = some u → look env t = some u
  | [], _, _, h => by simp [pick, look] at h
  | s :: ts, t, u, h => by
    simp only [pick] at h
    split at h
    · rename_i v hv
      simp only [look] at h
      by_cases e : s = t
      · subst e; rw [Nat.beq_refl] at h; simp at h; subst h; exact hv
      · have hb : Nat.beq s t = false := beq_no e
        rw [hb] at h; exact look_pick ts t u h
    · exact look_pick ts t u h

theorem Has.pick (h : Has n env a) (ts : List Nat) : Has n (Rx.pick ts env) a := ⟨h.defers, h.size, fun t u hu => h.has t u (look_pick ts t u hu)⟩

/-- To a list typed out: each slot is looked up. -/
theorem Has.to {env' : Env} (h : Has n env a) (ts : List Nat) (e : Rx.pick ts env = env') : Has n env' a := e ▸ h.pick ts

def initEnv : List Value → Nat → Env
  | [], _ => []
  | v :: r, i => (i, v) :: initEnv r (i + 1)

theorem look_init : ∀ (l : List Value) (i t : Nat) (u : Value), look (initEnv l i) t = some u → i ≤ t ∧ l[t - i]? = some u
  | [], _, _, _, h => by simp [initEnv, look] at h
  | v :: r, i, t, u, h => by
    simp only [initEnv, look] at h
    by_cases e : i = t
    · subst e; rw [Nat.beq_refl] at h; simp at h; subst h; simp
    · have hb : Nat.beq i t = false := beq_no e
      rw [hb] at h
      obtain ⟨h1, h2⟩ := look_init r (i + 1) t u h
      refine ⟨by omega, ?_⟩
      rw [show t - i = (t - (i + 1)) + 1 by omega, List.getElem?_cons_succ]; exact h2

/-- The frame in which a call begins. -/
theorem Has.init (args : List Value) (m : Nat) (hm : args.length ≤ m) : Has m (initEnv args 0) { tmps := args.toArray ++ Array.replicate (m - args.toArray.size) undef, defers := [] } := by
  refine ⟨rfl, by simp; omega, fun t u hu => ?_⟩
  obtain ⟨_, h⟩ := look_init args 0 t u hu
  simp only [Nat.sub_zero] at h
  have hl : t < args.length := (List.getElem?_eq_some_iff.1 h).1
  rw [Array.getElem?_append, if_pos (by simpa using hl)]
  simpa using h

theorem enter {P : Program} {f : FuncId} {fn : Func} {c : Code} {args : List Value} {w : World} {R : Ending → World → Prop} {m : Nat}
    (hf : P.funcs[f]? = some fn) (hb : fn.body = some c) (hn : fn.ntmps = m) (hm : Nat.ble args.length m = true)
    (h : ∀ a, Has m (initEnv args 0) a → c.wp P (bodyPost P fn R) a w) : Calls P f args.toArray w R := by
  refine calls_of_wp hf hb (h _ ?_)
  subst hn
  exact Has.init args _ (by simpa [Nat.ble_eq] using hm)
end

section
variable {P : Program} {ops : Array Oper} {Q : Exit → Act → World → Prop} {a : Act} {w w' : World} {rest : List Oper} {o : Oper} {n : Nat} {env : Env} {v : Value}

theorem wanted_none (hg : o.guard = none) (y : Nat → Option Bool) : Region.wanted o y = true := by simp [Region.wanted, hg]

/-- One operation that yields a value. -/
theorem sv (ha : Has n env a) {d : Nat} (hrun : (execOp a.eval o).run P w = .ok (.value v) w') (hg : o.guard = none) (hd : o.dst = some d) (hn : Nat.blt d n = true)
    (k : ∀ a', Has n ((d, v) :: env) a' → wpList P ops Q rest a' w') : wpList P ops Q (o :: rest) a w := by
  unfold wpList
  rw [if_pos (wanted_none hg _)]
  refine .inl ?_
  unfold Oper.wp
  rw [hrun, Oper.upon_value, hd]
  exact k _ (ha.put hn v)

/-- One that yields none (a store). -/
theorem ss (ha : Has n env a) (hrun : (execOp a.eval o).run P w = .ok .skip w') (hg : o.guard = none) (hd : o.dst = none)
    (k : ∀ a', Has n env a' → wpList P ops Q rest a' w') : wpList P ops Q (o :: rest) a w := by
  unfold wpList
  rw [if_pos (wanted_none hg _)]
  refine .inl ?_
  unfold Oper.wp
  rw [hrun, Oper.upon_skip, hd]
  exact k _ ha

/-- A call. -/
theorem sc (ha : Has n env a) {d : Nat} {f : FuncId} {args : Array Value} {R : Ending → World → Prop} (hrun : (execOp a.eval o).run P w = .ok (.enter f args) w') (hg : o.guard = none) (hd : o.dst = some d) (hn : Nat.blt d n = true)
    (hc : Calls P f args w' R) (k : ∀ e w'', R e w'' → ∃ v, e = .returned v ∧ ∀ a', Has n ((d, v) :: env) a' → wpList P ops Q rest a' w'') : wpList P ops Q (o :: rest) a w := by
  unfold wpList
  rw [if_pos (wanted_none hg _)]
  refine .inl ?_
  unfold Oper.wp
  rw [hrun, Oper.upon_enter, hd]
  refine hc.mono fun e w'' hR => ?_
  obtain ⟨v, rfl, k'⟩ := k e w'' hR
  exact k' _ (ha.put hn v)

/-- What the guard of an operation looks at: the slot of another one holds a Bool. -/
theorem yielded_of (ha : Has n env a) {j s : Nat} {b : Bool} (hj : (ops[j]?).bind (·.dst) = some s) (hs : look env s = some (.bool b)) : yielded ops a.tmps j = some b := by
  have h := ha.has s _ hs
  unfold yielded
  simp only [hj]
  simp [h]

/-- An operation whose guard says no is passed over. -/
theorem sno (ha : Has n env a) {d j s : Nat} {b want : Bool} (hg : o.guard = some (j, want)) (hj : (ops[j]?).bind (·.dst) = some s) (hs : look env s = some (.bool b)) (hne : b = !want) (hd : o.dst = some d) (hn : Nat.blt d n = true)
    (k : ∀ a', Has n ((d, undef) :: env) a' → wpList P ops Q rest a' w) : wpList P ops Q (o :: rest) a w := by
  have hy := yielded_of (ops := ops) ha hj hs
  unfold wpList
  rw [if_neg (by simp [Region.wanted, hg, hy, hne]), hd]
  exact k _ (ha.put hn undef)

theorem guard_yes (ha : Has n env a) {j s : Nat} {want : Bool} (hg : o.guard = some (j, want)) (hj : (ops[j]?).bind (·.dst) = some s) (hs : look env s = some (.bool want)) : Region.wanted o (yielded ops a.tmps) = true := by
  have hy := yielded_of (ops := ops) ha hj hs
  simp [Region.wanted, hg, hy]

theorem svg (ha : Has n env a) {d j s : Nat} {want : Bool} (hrun : (execOp a.eval o).run P w = .ok (.value v) w') (hg : o.guard = some (j, want)) (hj : (ops[j]?).bind (·.dst) = some s) (hs : look env s = some (.bool want)) (hd : o.dst = some d) (hn : Nat.blt d n = true)
    (k : ∀ a', Has n ((d, v) :: env) a' → wpList P ops Q rest a' w') : wpList P ops Q (o :: rest) a w := by
  unfold wpList
  rw [if_pos (guard_yes ha hg hj hs)]
  refine .inl ?_
  unfold Oper.wp
  rw [hrun, Oper.upon_value, hd]
  exact k _ (ha.put hn v)

theorem region {id : Nat} {l : List Oper} (h : wpList P l.toArray Q l a w) : (Code.region id l.toArray false).wp P Q a w := wp_region_lit h

end

/-! ### Code -/
section
variable {P : Program} {Q : Exit → Act → World → Prop} {a : Act} {w : World} {n : Nat} {env : Env}

theorem cond_t {c : Operand} {x y : Code} (ha : Has n env a) (hc : ev env c = some (.bool true)) (h : x.wp P Q a w) : (Code.cond c x y).wp P Q a w := wp_cond_true (ha.ev hc) h
theorem cond_f {c : Operand} {x y : Code} (ha : Has n env a) (hc : ev env c = some (.bool false)) (h : y.wp P Q a w) : (Code.cond c x y).wp P Q a w := wp_cond_false (ha.ev hc) h
theorem cond_if {c : Operand} {x y : Code} {b : Bool} (ha : Has n env a) (hc : ev env c = some (.bool b)) (ht : b = true → x.wp P Q a w) (hf : b = false → y.wp P Q a w) : (Code.cond c x y).wp P Q a w :=
  wp_cond_split (ha.ev hc) ht hf

theorem t_ret {next : Act → World → Prop} (h : Q .ret a w) : Exit.then next Q .ret a w := h

/-- A loop, its measure on a ghost. -/
theorem loopG {c : Code} {G : Type} (I : G → Act → World → Prop) (μ : G → Nat) (g0 : G) (h₀ : I g0 a w)
    (round : ∀ g a w, I g a w → c.wp P (Exit.then (fun a' w' => ∃ g', μ g' < μ g ∧ I g' a' w') Q) a w) : (Code.loop c).wp P Q a w := by
  intro b k cs
  have key : ∀ m g a w, μ g = m → I g a w →
      ∃ e a' w', Q e a' w' ∧ Arrives P (lone (b.at a (.code c :: .inLoop c :: k)) cs w) b k cs e a' w' := by
    intro m
    induction m using Nat.strongRecOn with
    | _ m ih =>
      intro g a w hm hI
      obtain ⟨e, a₁, w₁, hq, harr⟩ := round g a w hI b (.inLoop c :: k) cs
      cases e with
      | normal =>
        obtain ⟨g', hlt, hI₁⟩ := hq
        obtain ⟨e₂, a₂, w₂, hq₂, harr₂⟩ := ih (μ g') (hm ▸ hlt) g' a₁ w₁ rfl hI₁
        exact ⟨e₂, a₂, w₂, hq₂, .of_steps (Steps.trans harr (.one step_inLoop)) harr₂⟩
      | exit id => exact ⟨_, a₁, w₁, hq, .pass (x := .inLoop c) rfl (fun _ _ => .inl (by simp)) harr⟩
      | goto l => exact ⟨_, a₁, w₁, hq, .pass (x := .inLoop c) rfl (fun _ _ => .inl (by simp)) harr⟩
      | ret => exact ⟨_, a₁, w₁, hq, .pass (x := .inLoop c) rfl (fun _ _ => .inl (by simp)) harr⟩
      | panic ch => exact ⟨_, a₁, w₁, hq, .pass (x := .inLoop c) rfl (fun _ _ => .inl (by simp)) harr⟩
      | outgrown => exact ⟨_, a₁, w₁, hq, .pass (x := .inLoop c) rfl (fun _ _ => .inl (by simp)) harr⟩
  obtain ⟨e, a', w', hq, harr⟩ := key _ g0 a w rfl h₀
  exact ⟨e, a', w', hq, .of_steps (.one step_loop) harr⟩

/-- The end of a function with one result in a slot. -/
theorem ret1 {fn : Func} {R : Ending → World → Prop} {t : Tmp} {v : Value} (ha : Has n env a) (hr : fn.results = #[.tmp t]) (hv : look env t = some v) (h : R (.returned v) w) : bodyPost P fn R .ret a w := by
  refine ⟨ha.defers, v, ?_, h⟩
  rw [results_tmp hr]
  simp [Array.getD_eq_getD_getElem?, ha.has t v hv]

theorem ret2 {fn : Func} {R : Ending → World → Prop} {t u : Tmp} {v x : Value} (ha : Has n env a) (hr : fn.results = #[.tmp t, .tmp u]) (hv : look env t = some v) (hx : look env u = some x) (h : R (.returned (.tuple #[v, x])) w) : bodyPost P fn R .ret a w := by
  refine ⟨ha.defers, .tuple #[v, x], ?_, h⟩
  rw [results_tmp2 hr]
  simp [Array.getD_eq_getD_getElem?, ha.has t v hv, ha.has u x hx]

theorem run_results3 {fn : Func} {t u s : Tmp} (h : fn.results = #[.tmp t, .tmp u, .tmp s]) (tmps : Array Value) (P : Program) (w : World) :
    (results fn tmps).run P w = .ok (.tuple #[tmps.getD t undef, tmps.getD u undef, tmps.getD s undef]) w := by
  simp [results, h]

theorem ret3 {fn : Func} {R : Ending → World → Prop} {t u s : Tmp} {v x y : Value} (ha : Has n env a) (hr : fn.results = #[.tmp t, .tmp u, .tmp s]) (hv : look env t = some v) (hx : look env u = some x) (hy : look env s = some y) (h : R (.returned (.tuple #[v, x, y])) w) : bodyPost P fn R .ret a w := by
  refine ⟨ha.defers, .tuple #[v, x, y], ?_, h⟩
  rw [run_results3 hr]
  simp [Array.getD_eq_getD_getElem?, ha.has t v hv, ha.has u x hx, ha.has s y hy]

/-- One result that lies in a block (an array, a struct). -/
theorem retC {fn : Func} {R : Ending → World → Prop} {p : Tmp} {ty g t : Nat} {C : List Value} (d : TypeDesc) (ha : Has n env a) (hr : fn.results = #[.cell p ty]) (hp : look env p = some (.pointer (some ⟨g, 0, none⟩)))
    (hg : w.heap[g]? = some (.cells C.toArray t (0, 0))) (hu : P.underlying ty = some d) (hd : (match d with | .struct _ | .array _ _ => true | _ => false) = true) (hi : (P.info? ty).map (·.size) = some C.length)
    (h : R (.returned (.agg C.toArray)) w) : bodyPost P fn R .ret a w := by
  refine ⟨ha.defers, .agg C.toArray, ?_, h⟩
  exact results_cell_row hr a.tmps w g t C.toArray (0, 0) d (by simp [Array.getD_eq_getD_getElem?, ha.has p _ hp]) hg hu hd (by simpa using hi)
end
end Go.Rx

/- A region that draws its order: one canonical order serves, if a Bool holds ('canonB') and each operation that is called steady yields one value in every world that meets S. Behind number n, which waits for all others, S is not asked. -/
namespace Go.Rx
open Go.RowKit

section
variable {P : Program} {ops : Array Oper} {Q : Exit → Act → World → Prop} {S : World → Prop} {T : List Nat}

/-- What is listed has all that it waits for listed, too. -/
def Closed (ops : Array Oper) (listed : Array Bool) : Prop := ∀ j oj, ops[j]? = some oj → listed.getD j false = true → ∀ e ∈ oj.after, Region.binds .any e = true → listed.getD e.on false = true
theorem Closed.add {listed : Array Bool} {j : Nat} (h : Closed ops listed) (hj : j ∈ Region.ready .any ops listed) : Closed ops (listed.setIfInBounds j true) := by
  intro k ok hk hl e he hb
  by_cases hjk : j = k
  · subst hjk
    obtain ⟨_, o, ho, hall⟩ := mem_ready.1 hj
    rw [ho] at hk
    cases hk
    exact getD_set_true (hall e he hb)
  · rw [getD_set_ne false hjk] at hl
    exact getD_set_true (h k ok hk hl e he hb)

/-- Number t waits for number i, directly or through others. -/
def waitsB (ops : Array Oper) : Nat → Nat → Nat → Bool
  | 0, _, _ => false
  | f + 1, t, i => match ops[t]? with
    | none => false
    | some o => o.after.any fun e => Region.binds .any e && (Nat.beq e.on i || waitsB ops f e.on i)
theorem waitsB_listed {listed : Array Bool} (hc : Closed ops listed) {i : Nat} : ∀ (f t : Nat), waitsB ops f t i = true → (∀ o, ops[t]? = some o → ∀ e ∈ o.after, Region.binds .any e = true → listed.getD e.on false = true) → listed.getD i false = true
  | 0, t, h, _ => by simp [waitsB] at h
  | f + 1, t, h, hr => by
    unfold waitsB at h
    cases ho : ops[t]? with
    | none => rw [ho] at h; cases h
    | some o =>
      rw [ho] at h
      obtain ⟨e, he, hb⟩ := Array.any_eq_true'.1 h
      simp only [Bool.and_eq_true, Bool.or_eq_true] at hb
      have hl := hr o ho e he hb.1
      rcases hb.2 with h1 | h1
      · rwa [Nat.eq_of_beq_eq_true h1] at hl
      · exact waitsB_listed hc f e.on h1 (fun o' ho' e' he' hb' => hc e.on o' ho' hl e' he' hb')

/-- Each number of the tail waits for all that are not of it. -/
def tailB (ops : Array Oper) (T : List Nat) : Bool := T.all fun t => (List.range ops.size).all fun i => T.contains i || waitsB ops ops.size t i
theorem tailB_spec {i t : Nat} {oi : Oper} (hi : ops[i]? = some oi) (h : tailB ops T = true) (listed : Array Bool) (hc : Closed ops listed) (ht : T.contains t = true) (hr : t ∈ Region.ready .any ops listed) (hl : listed.getD i true = false) : T.contains i = true := by
  have hlt : i < ops.size := (Array.getElem?_eq_some_iff.1 hi).1
  have h1 := List.all_eq_true.1 h t (by simpa using ht)
  have h2 := List.all_eq_true.1 h1 i (by simpa using hlt)
  simp only [Bool.or_eq_true] at h2
  rcases h2 with h2 | h2
  · exact h2
  · obtain ⟨_, o, ho, hall⟩ := mem_ready.1 hr
    have h3 := waitsB_listed hc _ _ h2 (fun o' ho' e he hb => by rw [ho] at ho'; cases ho'; exact hall e he hb)
    rcases Nat.lt_or_ge i listed.size with h' | h'
    · simp [h'] at hl h3; rw [hl] at h3; cases h3
    · simp [Array.getElem?_eq_none h'] at h3

/-- Whatever order is picked: with f operations to come. S holds behind each operation that is not of the tail. -/
def AnyF (P : Program) (ops : Array Oper) (Q : Exit → Act → World → Prop) (S : World → Prop) (T : List Nat) : Nat → Array Bool → Act → World → Prop
  | 0, listed, a, w => Region.ready .any ops listed = [] ∧ Q .normal a w
  | f + 1, listed, a, w => Region.ready .any ops listed ≠ [] ∧
    ∀ i ∈ Region.ready .any ops listed, wpOp P ops Q i (fun a' w' => (T.contains i = false → S w') ∧ AnyF P ops Q S T f (listed.setIfInBounds i true) a' w') a w

theorem any_of_AnyF : ∀ (f : Nat) (listed : Array Bool) (a : Act) (w : World), AnyF P ops Q S T f listed a w → wpAny P .any ops Q f listed a w
  | 0, _, _, _, h => h
  | f + 1, _, _, _, h => ⟨fun e => absurd e h.1, fun i hi => wpOp_mono (fun a' w' h' => any_of_AnyF f _ a' w' h'.2) (h.2 i hi)⟩

theorem AnyF_first {i : Nat} {oi : Oper} {v : Value} (hi : ops[i]? = some oi) (hit : T.contains i = false) (hsel : ∀ (j : Nat) (o : Oper) cs b, ops[j]? = some o → o.op ≠ .select cs b)
    (hQ : ∀ c a w, Q (.panic c) (a.put oi.dst v) w → Q (.panic c) a w) (hlast : tailB ops T = true) :
    ∀ (f : Nat) (listed : Array Bool) (a : Act) (w : World), Closed ops listed →
      (∀ j oj, ops[j]? = some oj → j ≠ i → listed.getD j true = false → (∀ e ∈ oj.after, Region.binds .any e = true → e.on ≠ i) → oi.apart ops oj = true) →
      i ∈ Region.ready .any ops listed → YieldsIf P ops S oi v a → S w →
      AnyF P ops Q S T f (listed.setIfInBounds i true) (a.put oi.dst v) w → AnyF P ops Q S T (f + 1) listed a w := by
  intro f
  induction f with
  | zero =>
    intro listed a w _ _ hr hy hS H
    refine ⟨fun e => (by rw [e] at hr; cases hr), fun j hj => ?_⟩
    by_cases hji : j = i
    · subst hji; exact hy.wpOp hi hS ⟨fun _ => hS, H⟩
    · have hm := ready_mono hj hji
      rw [H.1] at hm
      cases hm
  | succ f ih =>
    intro listed a w hcl hfree hr hy hS H
    refine ⟨fun e => (by rw [e] at hr; cases hr), fun j hj => ?_⟩
    by_cases hji : j = i
    · subst hji; exact hy.wpOp hi hS ⟨fun _ => hS, H⟩
    · have h1 := H.2 j (ready_mono hj hji)
      obtain ⟨hjun, oj, hoj, hall⟩ := mem_ready.1 hj
      have hnot : ∀ e ∈ oj.after, Region.binds .any e = true → e.on ≠ i := by
        intro e he hb heq
        have hl := hall e he hb
        have h0 := (mem_ready.1 hr).1
        rw [heq] at hl
        rcases Nat.lt_or_ge i listed.size with h' | h'
        · simp [h'] at h0 hl; rw [h0] at hl; cases hl
        · simp [Array.getElem?_eq_none h'] at hl
      have h2 := wpOp_putIf hoj (hfree j oj hoj hji hjun hnot) (fun cs b => hsel i oi cs b hi) (fun cs b => hsel j oj cs b hoj) hQ hy h1
      have hfree' : ∀ k ok, ops[k]? = some ok → k ≠ i → (listed.setIfInBounds j true).getD k true = false →
          (∀ e ∈ ok.after, Region.binds .any e = true → e.on ≠ i) → oi.apart ops ok = true := by
        intro k ok hk hki hun hno
        refine hfree k ok hk hki ?_ hno
        by_cases hjk : j = k
        · subst hjk; exact hjun
        · rw [getD_set_ne true hjk] at hun; exact hun
      have hjn : T.contains j = false := by
        cases hT : T.contains j with
        | false => rfl
        | true => rw [tailB_spec hi hlast listed hcl hT hj (mem_ready.1 hr).1] at hit; cases hit
      refine wpOp_mono (fun a' w' h3 => ?_) h2
      obtain ⟨hy', hS', hA'⟩ := h3
      refine ⟨hS', ih (listed.setIfInBounds j true) a' w' (hcl.add hj) hfree' (ready_mono hr (Ne.symm hji)) hy' (hS' hjn) ?_⟩
      rw [Array.setIfInBounds_comm _ _ hji]
      exact hA'

/-- The canonical order: 'st' are the steady ones. -/
def orderB (ops : Array Oper) (st : List Nat) : List Nat → Array Bool → Bool
  | [], listed => (Region.ready .any ops listed).isEmpty
  | i :: r, listed => (Region.ready .any ops listed).contains i && (if st.contains i then Region.free .any ops listed i else (Region.ready .any ops listed).all (Nat.beq i)) && orderB ops st r (listed.setIfInBounds i true)
/-- Behind the first number of the tail none is steady. -/
def restB (st T : List Nat) : List Nat → Bool
  | [] => true
  | i :: r => (if T.contains i then (i :: r).all (fun k => !st.contains k) else true) && restB st T r

def canonB (ops : Array Oper) (st T : List Nat) (ord : List Nat) : Bool :=
  Region.noSelect ops && tailB ops T && Nat.beq ord.length ops.size && orderB ops st ord (Array.replicate ops.size false) && restB st T ord

/-- The walk of the canonical order. Behind an operation that is not steady, when it is the only one that may come, S may be strengthened. -/
def wpC (P : Program) (ops : Array Oper) (Q : Exit → Act → World → Prop) (S : World → Prop) (T : List Nat) (st : List Nat) : List Nat → Act → World → Prop
  | [], a, w => Q .normal a w
  | i :: r, a, w => ∃ o, ops[i]? = some o ∧
    if st.contains i then ∃ v, YieldsIf P ops S o v a ∧ wpC P ops Q S T st r (a.put o.dst v) w
    else wpOp P ops Q i (fun a' w' => ∃ S' : World → Prop, (∀ w, S' w → S w) ∧ (T.contains i = false → S' w') ∧ wpC P ops Q S' T st r a' w') a w

theorem AnyF_mono {S' : World → Prop} (hle : ∀ w, S' w → S w) : ∀ (f : Nat) (listed : Array Bool) (a : Act) (w : World), AnyF P ops Q S' T f listed a w → AnyF P ops Q S T f listed a w
  | 0, _, _, _, h => h
  | f + 1, _, _, _, h => ⟨h.1, fun i hi => wpOp_mono (fun a' w' h' => ⟨fun hT => hle _ (h'.1 hT), AnyF_mono hle f _ a' w' h'.2⟩) (h.2 i hi)⟩

theorem AnyF_of_wpC {st : List Nat} (hsel : Region.noSelect ops = true) (hlast : tailB ops T = true) (hQ : ∀ c a w, ¬ Q (.panic c) a w) :
    ∀ (ord : List Nat) (S : World → Prop) (listed : Array Bool) (a : Act) (w : World), Closed ops listed → orderB ops st ord listed = true → restB st T ord = true → ((∃ k ∈ ord, st.contains k = true) → S w) →
      wpC P ops Q S T st ord a w → AnyF P ops Q S T ord.length listed a w
  | [], _, _, _, _, _, hB, _, _, h => ⟨by simpa [orderB] using hB, h⟩
  | i :: r, S, listed, a, w, hcl, hB, hR, hS, h => by
    simp only [orderB, Bool.and_eq_true] at hB
    obtain ⟨⟨hr, hf⟩, hB'⟩ := hB
    simp only [restB, Bool.and_eq_true] at hR
    obtain ⟨hR0, hR'⟩ := hR
    obtain ⟨o, ho, h⟩ := h
    have hir : i ∈ Region.ready .any ops listed := by simpa using hr
    by_cases hc : st.contains i = true
    · rw [if_pos hc] at h hf
      obtain ⟨v, hy, h⟩ := h
      have hw := hS ⟨i, by simp, hc⟩
      have hit : T.contains i = false := by
        cases hT : T.contains i with
        | false => rfl
        | true => rw [if_pos hT] at hR0; have := List.all_eq_true.1 hR0 i (by simp); rw [hc] at this; cases this
      exact AnyF_first ho hit (Region.noSelect_spec hsel) (fun c a w hq => absurd hq (hQ c _ w)) hlast r.length listed a w hcl (Region.free_spec ho hf) hir hy hw
        (AnyF_of_wpC hsel hlast hQ r S _ _ w (hcl.add hir) hB' hR' (fun _ => hw) h)
    · rw [if_neg hc] at h hf
      have hall : ∀ k ∈ Region.ready .any ops listed, k = i := fun k hk => (Nat.eq_of_beq_eq_true (List.all_eq_true.1 hf k hk)).symm
      refine ⟨fun e => by rw [e] at hr; simp at hr, fun k hk => ?_⟩
      rw [hall k hk]
      refine wpOp_mono (fun a' w' h' => ?_) h
      obtain ⟨S', hle, hS', h'⟩ := h'
      refine ⟨fun hT => hle _ (hS' hT), AnyF_mono hle _ _ _ _ (AnyF_of_wpC hsel hlast hQ r S' _ a' w' (hcl.add hir) hB' hR' (fun hex => ?_) h')⟩
      cases hT : T.contains i with
      | false => exact hS' hT
      | true =>
        exfalso
        rw [if_pos hT] at hR0
        obtain ⟨k', hk', hst'⟩ := hex
        have := List.all_eq_true.1 hR0 k' (List.mem_cons_of_mem _ hk')
        rw [hst'] at this; cases this

/-- A region that draws its order. -/
theorem regionC {id : Nat} {a : Act} {w : World} {l : List Oper} (S : World → Prop) (T st ord : List Nat) (hm : P.follows .mixedOrders = true)
    (hB : canonB l.toArray st T ord = true) (hS : S { w with drawn := w.drawn + 1 })
    (h : wpC P l.toArray (NoPanic Q) S T st ord a { w with drawn := w.drawn + 1 }) : (Code.region id l.toArray true).wp P Q a w := by
  simp only [canonB, Bool.and_eq_true] at hB
  obtain ⟨⟨⟨⟨h1, h2⟩, h3⟩, h4⟩, h5⟩ := hB
  refine wp_region_noPanic (wp_region_any hm ?_)
  have hlen : ord.length = l.toArray.size := Nat.eq_of_beq_eq_true h3
  rw [← hlen]
  refine any_of_AnyF _ _ _ _ (AnyF_of_wpC h1 h2 (fun c a w hq => hq) ord S _ a _ (fun j oj _ hl => ?_) (by rw [hlen]; exact h4) h5 (fun _ => hS) h)
  exfalso
  rcases Nat.lt_or_ge j (Array.replicate ord.length false).size with h' | h'
  · simp [Array.getElem?_replicate] at hl
    split at hl <;> simp at hl
  · simp [Array.getElem?_eq_none h'] at hl

/-- The same, the world behind the draw behind a name. -/
theorem regionD {id : Nat} {a : Act} {w : World} {l : List Oper} (S : World → Prop) (T st ord : List Nat) (hm : P.follows .mixedOrders = true)
    (hB : canonB l.toArray st T ord = true) (hS : ∀ w', w.grownBy w' none → S w')
    (h : ∀ w', w.grownBy w' none → wpC P l.toArray (NoPanic Q) S T st ord a w') : (Code.region id l.toArray true).wp P Q a w :=
  have hg : w.grownBy { w with drawn := w.drawn + 1 } none := ⟨rfl, rfl, rfl, Nat.le_refl _, fun _ _ _ => rfl⟩
  regionC S T st ord hm hB (hS _ hg) (h _ hg)

/-! ### The moves -/
variable {st : List Nat} {i : Nat} {r : List Nat} {a : Act} {w w' : World} {o : Oper} {m : Nat} {env : Env} {v : Value}

theorem cfin (h : Q .normal a w) : wpC P ops (NoPanic Q) S T st [] a w := h

/-- A steady one. -/
theorem cv (ha : Has m env a) {d : Nat} (hi : ops[i]? = some o) (hc : st.contains i = true) (hrun : ∀ w, S w → (execOp a.eval o).run P w = .ok (.value v) w) (hg : o.guard = none) (hd : o.dst = some d) (hn : Nat.blt d m = true)
    (k : ∀ a', Has m ((d, v) :: env) a' → wpC P ops Q S T st r a' w) : wpC P ops Q S T st (i :: r) a w := by
  refine ⟨o, hi, ?_⟩
  rw [if_pos hc]
  refine ⟨v, .inl ⟨wanted_none hg _, hrun⟩, ?_⟩
  rw [hd]
  exact k _ (ha.put hn v)

/-- One that changes the world and yields a value (an alloc, an append). -/
theorem cw (ha : Has m env a) {d : Nat} (hi : ops[i]? = some o) (hc : st.contains i = false) (hrun : (execOp a.eval o).run P w = .ok (.value v) w') (hg : o.guard = none) (hd : o.dst = some d) (hn : Nat.blt d m = true) (hS : T.contains i = false → S w')
    (k : ∀ a', Has m ((d, v) :: env) a' → wpC P ops Q S T st r a' w') : wpC P ops Q S T st (i :: r) a w := by
  refine ⟨o, hi, ?_⟩
  rw [if_neg (by rw [hc]; simp)]
  unfold wpOp
  simp only [hi]
  rw [if_pos (wanted_none hg _)]
  refine .inl ?_
  unfold Oper.wp
  rw [hrun, Oper.upon_value, hd]
  exact ⟨S, fun _ h => h, hS, k _ (ha.put hn v)⟩

/-- A store. -/
theorem cs (ha : Has m env a) (hi : ops[i]? = some o) (hc : st.contains i = false) (hrun : (execOp a.eval o).run P w = .ok .skip w') (hg : o.guard = none) (hd : o.dst = none) (hS : T.contains i = false → S w')
    (k : ∀ a', Has m env a' → wpC P ops Q S T st r a' w') : wpC P ops Q S T st (i :: r) a w := by
  refine ⟨o, hi, ?_⟩
  rw [if_neg (by rw [hc]; simp)]
  unfold wpOp
  simp only [hi]
  rw [if_pos (wanted_none hg _)]
  refine .inl ?_
  unfold Oper.wp
  rw [hrun, Oper.upon_skip, hd]
  exact ⟨S, fun _ h => h, hS, k _ ha⟩

/-- A call. -/
theorem cc (ha : Has m env a) {d : Nat} {f : FuncId} {args : Array Value} {R : Ending → World → Prop} (hi : ops[i]? = some o) (hc : st.contains i = false) (hrun : (execOp a.eval o).run P w = .ok (.enter f args) w') (hg : o.guard = none) (hd : o.dst = some d) (hn : Nat.blt d m = true)
    (hcall : Calls P f args w' R) (k : ∀ e w'', R e w'' → (T.contains i = false → S w'') ∧ ∃ v, e = .returned v ∧ ∀ a', Has m ((d, v) :: env) a' → wpC P ops Q S T st r a' w'') : wpC P ops Q S T st (i :: r) a w := by
  refine ⟨o, hi, ?_⟩
  rw [if_neg (by rw [hc]; simp)]
  unfold wpOp
  simp only [hi]
  rw [if_pos (wanted_none hg _)]
  refine .inl ?_
  unfold Oper.wp
  rw [hrun, Oper.upon_enter, hd]
  refine hcall.mono fun e w'' hR => ?_
  obtain ⟨hS, v, rfl, k'⟩ := k e w'' hR
  exact ⟨S, fun _ h => h, hS, k' _ (ha.put hn v)⟩

/-- A call whose result's fact is taken into S. -/
theorem ccx (ha : Has m env a) {d : Nat} {f : FuncId} {args : Array Value} {R : Ending → World → Prop} (hi : ops[i]? = some o) (hc : st.contains i = false) (hrun : (execOp a.eval o).run P w = .ok (.enter f args) w') (hg : o.guard = none) (hd : o.dst = some d) (hn : Nat.blt d m = true)
    (hcall : Calls P f args w' R) (k : ∀ e w'', R e w'' → ∃ S' : World → Prop, (∀ w, S' w → S w) ∧ (T.contains i = false → S' w'') ∧ ∃ v, e = .returned v ∧ ∀ a', Has m ((d, v) :: env) a' → wpC P ops Q S' T st r a' w'') : wpC P ops Q S T st (i :: r) a w := by
  refine ⟨o, hi, ?_⟩
  rw [if_neg (by rw [hc]; simp)]
  unfold wpOp
  simp only [hi]
  rw [if_pos (wanted_none hg _)]
  refine .inl ?_
  unfold Oper.wp
  rw [hrun, Oper.upon_enter, hd]
  refine hcall.mono fun e w'' hR => ?_
  obtain ⟨S', hle, hS, v, rfl, k'⟩ := k e w'' hR
  exact ⟨S', hle, hS, k' _ (ha.put hn v)⟩
/-- One that changes the world and yields a value, whose fact is taken into S. -/
theorem cwx (ha : Has m env a) {d : Nat} (hi : ops[i]? = some o) (hc : st.contains i = false) (hrun : (execOp a.eval o).run P w = .ok (.value v) w') (hg : o.guard = none) (hd : o.dst = some d) (hn : Nat.blt d m = true)
    (k : ∃ S' : World → Prop, (∀ w, S' w → S w) ∧ (T.contains i = false → S' w') ∧ ∀ a', Has m ((d, v) :: env) a' → wpC P ops Q S' T st r a' w') : wpC P ops Q S T st (i :: r) a w := by
  refine ⟨o, hi, ?_⟩
  rw [if_neg (by rw [hc]; simp)]
  unfold wpOp
  simp only [hi]
  rw [if_pos (wanted_none hg _)]
  refine .inl ?_
  unfold Oper.wp
  rw [hrun, Oper.upon_value, hd]
  obtain ⟨S', hle, hS, k'⟩ := k
  exact ⟨S', hle, hS, k' _ (ha.put hn v)⟩
end
end Go.Rx

/- The operations of the calculus, one equation each: numbers, arrays, loads and stores, calls. -/
namespace Go.Rx
open Go.RowKit

abbrev e64 (x : UInt64) : Value := .int .u64 (x.toNat : Int)
abbrev e32 (x : UInt32) : Value := .int .u32 (x.toNat : Int)
abbrev e8 (x : UInt8) : Value := .int .u8 (x.toNat : Int)
abbrev ei (x : Int) : Value := .int .i64 x
abbrev en (x : Nat) : Value := .int .i64 (x : Int)

section
variable {P : Program} {n : Nat} {env : Env} {a : Act} {w : World} {dst : Option Tmp} {ty : TypeId} {pos : String} {af : Array Edge} {g : Option (Nat × Bool)} {x y z : Operand} {v u : Value}

theorem r_move (ha : Has n env a) (hx : ev env x = some v) : (execOp a.eval ⟨dst, .move x, ty, pos, af, g⟩).run P w = .ok (.value v) w := by
  simp [execOp, ha.ev hx]
theorem r_assign (ha : Has n env a) (hx : ev env x = some v) : (execOp a.eval ⟨dst, .assign x, ty, pos, af, g⟩).run P w = .ok (.value v) w := by
  simp [execOp, ha.ev hx]
theorem r_pick (ha : Has n env a) (b : Bool) {c p q : Operand} (hc : ev env c = some (.bool b)) (hv : (bif b then ev env p else ev env q) = some v) : (execOp a.eval ⟨dst, .pick c p q, ty, pos, af, g⟩).run P w = .ok (.value v) w := by
  cases b <;> simp at hv <;> simp [execOp, ha.ev hc, asBool, ha.ev hv]

/-! ### Memory -/
theorem r_box (ha : Has n env a) {t : TypeId} (hx : ev env x = some v) : (execOp a.eval ⟨dst, .box t x, ty, pos, af, g⟩).run P w = .ok (.value (.pointer (some ⟨w.heap.size, 0, none⟩))) (w.alloc (.cells v.cells t)) := by
  simp [execOp, ha.ev hx, Instr.box, newVar, newRow, newObj]
  rfl
theorem r_alloc {t : TypeId} (hz : ∀ w, (zeroValue t).run P w = .ok v w) : (execOp a.eval ⟨dst, .alloc t, ty, pos, af, g⟩).run P w = .ok (.value (.pointer (some ⟨w.heap.size, 0, none⟩))) (w.alloc (.cells v.cells t)) := by
  simp [execOp, Instr.alloc, hz, newVar, newRow, newObj]
  rfl

theorem r_load (ha : Has n env a) {t : TypeId} {b o : Nat} (hx : ev env x = some (.pointer (some ⟨b, o, none⟩))) (hagg : ∀ w, (isAgg t).run P w = .ok false w) (hc : w.cell? ⟨b, o, none⟩ = some v) :
    (execOp a.eval ⟨dst, .load t x, ty, pos, af, g⟩).run P w = .ok (.value v) w := by
  simp [execOp, ha.ev hx, Instr.loadAt, Instr.sureAddr, loadVar, hagg, load, Sem.run, hc]

theorem cell_of {b o t : Nat} {C : List Value} {fr : Nat × Nat} (hb : w.heap[b]? = some (.cells C.toArray t fr)) (hc : C[o]? = some v) : w.cell? ⟨b, o, none⟩ = some v := by
  rw [cell_of_row w b o _ t fr hb]; simpa using hc

theorem add_zero' (b o k : Nat) : (⟨b, o, none⟩ : Addr).add k = ⟨b, o + k, none⟩ := by
  unfold Addr.add; split
  · subst k; rfl
  · rfl

theorem r_loadR (ha : Has n env a) {t : TypeId} {b o sz : Nat} (hx : ev env x = some (.pointer (some ⟨b, o, none⟩))) (hagg : ∀ w, (isAgg t).run P w = .ok true w) (hsz : ∀ w, (sizeOf t).run P w = .ok sz w) {C : List Value} (hl : C.length = sz)
    (hc : ∀ j u, C[j]? = some u → w.cell? ⟨b, o + j, none⟩ = some u) :
    (execOp a.eval ⟨dst, .load t x, ty, pos, af, g⟩).run P w = .ok (.value (.agg C.toArray)) w := by
  have h := run_loadCells_list (P := P) w ⟨b, o, none⟩ C (fun j u hu => by rw [add_zero']; exact hc j u hu)
  rw [hl] at h
  simp [execOp, ha.ev hx, Instr.loadAt, Instr.sureAddr, loadVar, hagg, hsz, h]

theorem cells_of {b t : Nat} {D C : List Value} {fr : Nat × Nat} (o : Nat) (hb : w.heap[b]? = some (.cells D.toArray t fr)) (hc : (D.drop o).take C.length = C) : ∀ j u, C[j]? = some u → w.cell? ⟨b, o + j, none⟩ = some u := by
  intro j u hu
  rw [cell_of_row w b _ _ t fr hb]
  have hj : j < C.length := (List.getElem?_eq_some_iff.1 hu).1
  rw [← hc, List.getElem?_take, if_pos hj, List.getElem?_drop] at hu
  simpa using hu

theorem cells_all {b t : Nat} {D : List Value} {fr : Nat × Nat} (hb : w.heap[b]? = some (.cells D.toArray t fr)) : ∀ j u, D[j]? = some u → w.cell? ⟨b, 0 + j, none⟩ = some u := by
  intro j u hu
  rw [Nat.zero_add, cell_of_row w b _ _ t fr hb]
  simpa using hu

theorem r_store (ha : Has n env a) {t bt : TypeId} {b o : Nat} {C : List Value} (hx : ev env x = some (.pointer (some ⟨b, o, none⟩))) (hy : ev env y = some v) (hv : v.oneCell' = true) (hvs : v.cells = #[v]) (hsz : ∀ w, (sizeOf t).run P w = .ok 1 w)
    (hb : w.heap[b]? = some (.cells C.toArray bt (0, 0))) (ho : o < C.length) :
    (execOp a.eval ⟨dst, .store t x y, ty, pos, af, g⟩).run P w = .ok .skip (w.setRow b (C.set o v).toArray) := by
  have hcell : w.cell? ⟨b, o, none⟩ = some (C[o]) := by rw [cell_of_row w b o _ bt (0, 0) hb]; simp [ho]
  have hfro : w.frozen? ⟨b, o, none⟩ = false := by simp [World.frozen?, hb]
  have hst : (store ⟨b, o, none⟩ v).run P w = .ok () (w.setRow b (C.set o v).toArray) := by
    rw [run_store P w _ v _ hv, hcell]
    simp only [hfro, setCell_eq_setRow w b o C.toArray bt (0, 0) v hb]
    simp
  have hz : (⟨b, o, none⟩ : Addr).add 0 = ⟨b, o, none⟩ := rfl
  simp [execOp, ha.ev hx, ha.ev hy, Instr.storeAt, Instr.sureAddr, storeVar, hsz, hvs, storeCells, hz, hst]

theorem r_storeR (ha : Has n env a) {t bt : TypeId} {b o sz : Nat} {C D : List Value} (hx : ev env x = some (.pointer (some ⟨b, o, none⟩))) (hy : ev env y = some (.agg D.toArray)) (hD : ∀ u ∈ D, u.oneCell' = true) (hsz : ∀ w, (sizeOf t).run P w = .ok sz w) (hl : D.length = sz)
    (hb : w.heap[b]? = some (.cells C.toArray bt (0, 0))) (ho : o + D.length ≤ C.length) :
    (execOp a.eval ⟨dst, .store t x y, ty, pos, af, g⟩).run P w = .ok .skip (w.setRow b (C.take o ++ D ++ C.drop (o + D.length)).toArray) := by
  have h := run_storeCells_at P b o bt D 0 C.toArray w hb (by simpa using ho) hD
  simp only [Nat.add_zero] at h
  have hl' : D.toArray.size = sz := by simpa using hl
  simp [execOp, ha.ev hx, ha.ev hy, Instr.storeAt, Instr.sureAddr, storeVar, hsz, Value.cells, hl, h]

theorem r_indexArr (ha : Has n env a) {t e len sz : Nat} {b o i : Nat} (o' : Nat) (hT : ∀ w, (underlying t).run P w = .ok (.array len e) w) (hsz : ∀ w, (sizeOf e).run P w = .ok sz w) (hx : ev env x = some (.pointer (some ⟨b, o, none⟩))) (hy : ev env y = some (en i)) (hi : i < len) (ho : o + i * sz = o') :
    (execOp a.eval ⟨dst, .indexAddr t x y, ty, pos, af, g⟩).run P w = .ok (.value (.pointer (some ⟨b, o', none⟩))) w := by
  have h1 : (0 : Int) ≤ (i : Int) ∧ (i : Int) < (len : Int) := ⟨by omega, by omega⟩
  simp [execOp, ha.ev hx, ha.ev hy, Instr.indexAt, asIntOf, hT, hsz, Instr.sureAddr, h1, add_zero', ho, hi]

/-! ### Worlds: what changes is told by 'grownBy' (nothing that was there but one block); all else is carried on -/
section
variable {w0 w' : World} {row : Option Nat} {b c : Nat} {o : Obj}

theorem grown_alloc (w : World) (o : Obj) : w.grownBy (w.alloc o) none := World.grownBy_alloc w o none
theorem grown_setRow (w : World) (b : Nat) (C : Array Value) : w.grownBy (w.setRow b C) (some b) :=
  ⟨rfl, rfl, rfl, by simp, fun k _ hk => setRow_other w b k C (fun e => hk (by rw [e]))⟩
theorem grown_call (h : Below w.heap.size w w') : w.grownBy w' none := ⟨h.os, h.tape, h.output, h.size, fun k hk _ => h.block k hk⟩
theorem keepB0 (hg : w.grownBy w' none) (h : Below w0.heap.size w0 w) : Below w0.heap.size w0 w' :=
  h.grown hg h.size (fun _ e => by cases e)
theorem keepB1 (hg : w.grownBy w' (some b)) (hb : w0.heap.size ≤ b) (h : Below w0.heap.size w0 w) : Below w0.heap.size w0 w' :=
  h.grown hg h.size (fun k e => by cases e; exact hb)
theorem keepO0 (hg : w.grownBy w' none) (h : w.heap[c]? = some o) : w'.heap[c]? = some o := by
  rw [hg.block c (Array.getElem?_eq_some_iff.1 h).1 (by simp)]; exact h
theorem keepO1 (hg : w.grownBy w' (some b)) (hne : c ≠ b) (h : w.heap[c]? = some o) : w'.heap[c]? = some o := by
  rw [hg.block c (Array.getElem?_eq_some_iff.1 h).1 (by simpa using hne)]; exact h
theorem lt_of_block (h : w.heap[c]? = some o) : c < w.heap.size := (Array.getElem?_eq_some_iff.1 h).1

theorem setRow_new {C D : List Value} {t : TypeId} {fr : Nat × Nat} (h : w.heap[b]? = some (.cells C.toArray t fr)) : (w.setRow b D.toArray).heap[b]? = some (.cells D.toArray t fr) :=
  setRow_heap w b C.toArray D.toArray t fr h
end

/-! ### The moves with the worlds behind names -/
section
variable {ops : Array Oper} {Q : Exit → Act → World → Prop} {rest : List Oper} {d : Nat} {S : World → Prop} {T : List Nat} {i : Nat} {st r : List Nat}

theorem sbox (ha : Has n env a) {t : TypeId} {C : List Value} (hx : ev env x = some (.agg C.toArray)) (hn : Nat.blt d n = true)
    (k : ∀ a' w' b, Has n ((d, .pointer (some ⟨b, 0, none⟩)) :: env) a' → w.grownBy w' none → w'.heap[b]? = some (.cells C.toArray t (0, 0)) → w.heap.size ≤ b → b < w'.heap.size → wpList P ops Q rest a' w') :
    wpList P ops Q (⟨some d, .box t x, ty, pos, af, none⟩ :: rest) a w :=
  sv ha (r_box ha hx) rfl rfl hn fun _ ha' => k _ _ _ ha' (grown_alloc w _) (heap_alloc_new w _) (Nat.le_refl _) (by simp)
theorem sbox1 (ha : Has n env a) {t : TypeId} (hx : ev env x = some v) (hv : v.cells = #[v]) (hn : Nat.blt d n = true)
    (k : ∀ a' w' b, Has n ((d, .pointer (some ⟨b, 0, none⟩)) :: env) a' → w.grownBy w' none → w'.heap[b]? = some (.cells [v].toArray t (0, 0)) → w.heap.size ≤ b → b < w'.heap.size → wpList P ops Q rest a' w') :
    wpList P ops Q (⟨some d, .box t x, ty, pos, af, none⟩ :: rest) a w :=
  sv ha (r_box ha hx) rfl rfl hn fun _ ha' => k _ _ _ ha' (grown_alloc w _) (by rw [heap_alloc_new w _, hv]) (Nat.le_refl _) (by simp)
theorem salloc (ha : Has n env a) {t : TypeId} {C : List Value} (hz : ∀ w, (zeroValue t).run P w = .ok (.agg C.toArray) w) (hn : Nat.blt d n = true)
    (k : ∀ a' w' b, Has n ((d, .pointer (some ⟨b, 0, none⟩)) :: env) a' → w.grownBy w' none → w'.heap[b]? = some (.cells C.toArray t (0, 0)) → w.heap.size ≤ b → b < w'.heap.size → wpList P ops Q rest a' w') :
    wpList P ops Q (⟨some d, .alloc t, ty, pos, af, none⟩ :: rest) a w :=
  sv ha (r_alloc hz) rfl rfl hn fun _ ha' => k _ _ _ ha' (grown_alloc w _) (heap_alloc_new w _) (Nat.le_refl _) (by simp)
/-- A store of one cell into a block of one's own. -/
theorem sstore (ha : Has n env a) {t bt : TypeId} {b o : Nat} {C : List Value} (hx : ev env x = some (.pointer (some ⟨b, o, none⟩))) (hy : ev env y = some v) (hv : v.oneCell' = true) (hvs : v.cells = #[v]) (hsz : ∀ w, (sizeOf t).run P w = .ok 1 w)
    (hb : w.heap[b]? = some (.cells C.toArray bt (0, 0))) (ho : o < C.length)
    (k : ∀ a' w', Has n env a' → w.grownBy w' (some b) → w'.heap[b]? = some (.cells (C.set o v).toArray bt (0, 0)) → wpList P ops Q rest a' w') : wpList P ops Q (⟨none, .store t x y, ty, pos, af, none⟩ :: rest) a w :=
  ss ha (r_store ha hx hy hv hvs hsz hb ho) rfl rfl fun _ ha' => k _ _ ha' (grown_setRow w b _) (setRow_new hb)
theorem sstoreR (ha : Has n env a) {t bt : TypeId} {b o sz : Nat} {C D : List Value} (hx : ev env x = some (.pointer (some ⟨b, o, none⟩))) (hy : ev env y = some (.agg D.toArray)) (hD : ∀ u ∈ D, u.oneCell' = true) (hsz : ∀ w, (sizeOf t).run P w = .ok sz w) (hl : D.length = sz)
    (hb : w.heap[b]? = some (.cells C.toArray bt (0, 0))) (ho : o + D.length ≤ C.length)
    (k : ∀ a' w', Has n env a' → w.grownBy w' (some b) → w'.heap[b]? = some (.cells (C.take o ++ D ++ C.drop (o + D.length)).toArray bt (0, 0)) → wpList P ops Q rest a' w') : wpList P ops Q (⟨none, .store t x y, ty, pos, af, none⟩ :: rest) a w :=
  ss ha (r_storeR ha hx hy hD hsz hl hb ho) rfl rfl fun _ ha' => k _ _ ha' (grown_setRow w b _) (setRow_new hb)

/-- A store of a whole array. -/
theorem sstoreW (ha : Has n env a) {t bt : TypeId} {b sz : Nat} {C D : List Value} (hx : ev env x = some (.pointer (some ⟨b, 0, none⟩))) (hy : ev env y = some (.agg D.toArray)) (hD : ∀ u ∈ D, u.oneCell' = true) (hsz : ∀ w, (sizeOf t).run P w = .ok sz w) (hl : D.length = sz)
    (hb : w.heap[b]? = some (.cells C.toArray bt (0, 0))) (hC : C.length = sz)
    (k : ∀ a' w', Has n env a' → w.grownBy w' (some b) → w'.heap[b]? = some (.cells D.toArray bt (0, 0)) → wpList P ops Q rest a' w') : wpList P ops Q (⟨none, .store t x y, ty, pos, af, none⟩ :: rest) a w :=
  sstoreR ha hx hy hD hsz hl hb (by omega) fun a' w' ha' hg hb' => k a' w' ha' hg (by rwa [show C.take 0 ++ D ++ C.drop (0 + D.length) = D by simp [hl, hC]] at hb')

theorem cstore (ha : Has n env a) {t bt : TypeId} {b o : Nat} {C : List Value} (hi : ops[i]? = some ⟨none, .store t x y, ty, pos, af, none⟩) (hc : st.contains i = false) (hx : ev env x = some (.pointer (some ⟨b, o, none⟩))) (hy : ev env y = some v) (hv : v.oneCell' = true) (hvs : v.cells = #[v]) (hsz : ∀ w, (sizeOf t).run P w = .ok 1 w)
    (hb : w.heap[b]? = some (.cells C.toArray bt (0, 0))) (ho : o < C.length) (hlast : T.contains i = true)
    (k : ∀ a' w', Has n env a' → w.grownBy w' (some b) → w'.heap[b]? = some (.cells (C.set o v).toArray bt (0, 0)) → wpC P ops Q S T st r a' w') : wpC P ops Q S T st (i :: r) a w :=
  cs ha hi hc (r_store ha hx hy hv hvs hsz hb ho) rfl rfl (by rw [hlast]; simp) fun _ ha' => k _ _ ha' (grown_setRow w b _) (setRow_new hb)
theorem cstoreR (ha : Has n env a) {t bt : TypeId} {b o sz : Nat} {C D : List Value} (hi : ops[i]? = some ⟨none, .store t x y, ty, pos, af, none⟩) (hc : st.contains i = false) (hx : ev env x = some (.pointer (some ⟨b, o, none⟩))) (hy : ev env y = some (.agg D.toArray)) (hD : ∀ u ∈ D, u.oneCell' = true) (hsz : ∀ w, (sizeOf t).run P w = .ok sz w) (hl : D.length = sz)
    (hb : w.heap[b]? = some (.cells C.toArray bt (0, 0))) (ho : o + D.length ≤ C.length) (hlast : T.contains i = true)
    (k : ∀ a' w', Has n env a' → w.grownBy w' (some b) → w'.heap[b]? = some (.cells (C.take o ++ D ++ C.drop (o + D.length)).toArray bt (0, 0)) → wpC P ops Q S T st r a' w') : wpC P ops Q S T st (i :: r) a w :=
  cs ha hi hc (r_storeR ha hx hy hD hsz hl hb ho) rfl rfl (by rw [hlast]; simp) fun _ ha' => k _ _ ha' (grown_setRow w b _) (setRow_new hb)
theorem cstoreW (ha : Has n env a) {t bt : TypeId} {b sz : Nat} {C D : List Value} (hi : ops[i]? = some ⟨none, .store t x y, ty, pos, af, none⟩) (hc : st.contains i = false) (hx : ev env x = some (.pointer (some ⟨b, 0, none⟩))) (hy : ev env y = some (.agg D.toArray)) (hD : ∀ u ∈ D, u.oneCell' = true) (hsz : ∀ w, (sizeOf t).run P w = .ok sz w) (hl : D.length = sz)
    (hb : w.heap[b]? = some (.cells C.toArray bt (0, 0))) (hC : C.length = sz) (hlast : T.contains i = true)
    (k : ∀ a' w', Has n env a' → w.grownBy w' (some b) → w'.heap[b]? = some (.cells D.toArray bt (0, 0)) → wpC P ops Q S T st r a' w') : wpC P ops Q S T st (i :: r) a w :=
  cstoreR ha hi hc hx hy hD hsz hl hb (by omega) hlast fun a' w' ha' hg hb' => k a' w' ha' hg (by rwa [show C.take 0 ++ D ++ C.drop (0 + D.length) = D by simp [hl, hC]] at hb')
end

theorem get_map {α : Type} (f : α → Value) (l : List α) (d : α) (i : Nat) (h : i < l.length) : (l.map f)[i]? = some (f (l.getD i d)) := by
  simp [List.getD, h]
theorem set_map {α : Type} (f : α → Value) (l : List α) (i : Nat) (x : α) : (l.map f).set i (f x) = (l.set i x).map f := by simp
theorem one_e64 (l : List UInt64) : ∀ u ∈ l.map e64, u.oneCell' = true := by intro u hu; obtain ⟨x, _, rfl⟩ := List.mem_map.1 hu; rfl
theorem one_e8 (l : List UInt8) : ∀ u ∈ l.map e8, u.oneCell' = true := by intro u hu; obtain ⟨x, _, rfl⟩ := List.mem_map.1 hu; rfl
theorem one_ei (l : List Int) : ∀ u ∈ l.map ei, u.oneCell' = true := by intro u hu; obtain ⟨x, _, rfl⟩ := List.mem_map.1 hu; rfl
theorem one_en (l : List Nat) : ∀ u ∈ l.map en, u.oneCell' = true := by intro u hu; obtain ⟨x, _, rfl⟩ := List.mem_map.1 hu; rfl

/-! ### Calls -/
def evs (env : Env) : List Operand → Option (List Value)
  | [] => some []
  | x :: r => match ev env x, evs env r with
    | some v, some l => some (v :: l)
    | _, _ => none

theorem Has.evs (ha : Has n env a) : ∀ (l : List Operand) (vs : List Value), Rx.evs env l = some vs → l.map a.eval = vs
  | [], vs, h => by simp [Rx.evs] at h; subst h; rfl
  | x :: r, vs, h => by
    simp only [Rx.evs] at h
    split at h
    · rename_i v l hv hl
      simp only [Option.some.injEq] at h
      subst h
      rw [List.map_cons, ha.ev hv, Has.evs ha r l hl]
    · cases h

theorem r_call (ha : Has n env a) {f : FuncId} {l : List Operand} {tys : Array TypeId} (vs : List Value) (hl : evs env l = some vs) (hc : ∀ args w, (callFunc f args).run P w = .ok (.enter f args) w) :
    (execOp a.eval ⟨dst, .call ⟨.value (.func f), l.toArray, tys⟩, ty, pos, af, g⟩).run P w = .ok (.enter f vs.toArray) w := by
  have h := ha.evs l vs hl
  have hf : a.eval (.func f) = .func (.func f) #[] #[] := rfl
  simp [execOp, resolve, hf, Deferred.ofValue, invoke, h, hc]

/-- A call of a function value that the frame holds. -/
theorem r_callV (ha : Has n env a) {f : FuncId} {l : List Operand} {tys : Array TypeId} {cap : Array Value} (vs : List Value) (hx : ev env x = some (.func (.func f) #[] cap)) (hl : evs env l = some vs) (hc : ∀ args w, (callFunc f args).run P w = .ok (.enter f args) w) :
    (execOp a.eval ⟨dst, .call ⟨.value x, l.toArray, tys⟩, ty, pos, af, g⟩).run P w = .ok (.enter f (vs.toArray ++ cap)) w := by
  have h := ha.evs l vs hl
  simp [execOp, resolve, ha.ev hx, Deferred.ofValue, invoke, h, hc]

theorem r_extract (ha : Has n env a) {i : Nat} {vs : Array Value} (hx : ev env x = some (.tuple vs)) (hi : vs[i]? = some v) : (execOp a.eval ⟨dst, .extract x i, ty, pos, af, g⟩).run P w = .ok (.value v) w := by
  simp [execOp, ha.ev hx, Instr.extract, hi]

/-! ### Numbers: int -/
theorem i64_in {z : Int} (h1 : -9223372036854775808 ≤ z) (h2 : z ≤ 9223372036854775807) : IntKind.i64.wrap z = z := IntWalk.i64_in z ⟨h1, h2⟩

section
variable {t t' : TypeId}

theorem r_add (ha : Has n env a) (p q : Int) (hx : ev env x = some (ei p)) (hy : ev env y = some (ei q)) (h : -9223372036854775808 ≤ p + q ∧ p + q ≤ 9223372036854775807) :
    (execOp a.eval ⟨dst, .binOp .add t x y t', ty, pos, af, g⟩).run P w = .ok (.value (ei (p + q))) w := by
  simp [execOp, ha.ev hx, ha.ev hy, eqGuard, binOp, Op.intArith, i64_in h.1 h.2]
theorem r_sub (ha : Has n env a) (p q : Int) (hx : ev env x = some (ei p)) (hy : ev env y = some (ei q)) (h : -9223372036854775808 ≤ p - q ∧ p - q ≤ 9223372036854775807) :
    (execOp a.eval ⟨dst, .binOp .sub t x y t', ty, pos, af, g⟩).run P w = .ok (.value (ei (p - q))) w := by
  simp [execOp, ha.ev hx, ha.ev hy, eqGuard, binOp, Op.intArith, i64_in h.1 h.2]
theorem r_mul (ha : Has n env a) (p q : Int) (hx : ev env x = some (ei p)) (hy : ev env y = some (ei q)) (h : -9223372036854775808 ≤ p * q ∧ p * q ≤ 9223372036854775807) :
    (execOp a.eval ⟨dst, .binOp .mul t x y t', ty, pos, af, g⟩).run P w = .ok (.value (ei (p * q))) w := by
  simp [execOp, ha.ev hx, ha.ev hy, eqGuard, binOp, Op.intArith, i64_in h.1 h.2]

/- numbers that are no less than nought -/
theorem rn_add (ha : Has n env a) (p q : Nat) (hx : ev env x = some (en p)) (hy : ev env y = some (en q)) (h : p + q ≤ 9223372036854775807) :
    (execOp a.eval ⟨dst, .binOp .add t x y t', ty, pos, af, g⟩).run P w = .ok (.value (en (p + q))) w := by
  have := r_add (P := P) (w := w) (t := t) (t' := t') (ty := ty) (pos := pos) (af := af) (g := g) (dst := dst) ha p q hx hy (by omega)
  rw [this]; simp
theorem rn_sub (ha : Has n env a) (p q : Nat) (hx : ev env x = some (en p)) (hy : ev env y = some (en q)) (h : q ≤ p) (hp : p ≤ 9223372036854775807) :
    (execOp a.eval ⟨dst, .binOp .sub t x y t', ty, pos, af, g⟩).run P w = .ok (.value (en (p - q))) w := by
  have := r_sub (P := P) (w := w) (t := t) (t' := t') (ty := ty) (pos := pos) (af := af) (g := g) (dst := dst) ha p q hx hy (by omega)
  rw [this, show ((p : Int) - (q : Int)) = ((p - q : Nat) : Int) by omega]
theorem rn_mul (ha : Has n env a) (p q : Nat) (hx : ev env x = some (en p)) (hy : ev env y = some (en q)) (h : p * q ≤ 9223372036854775807) :
    (execOp a.eval ⟨dst, .binOp .mul t x y t', ty, pos, af, g⟩).run P w = .ok (.value (en (p * q))) w := by
  have := r_mul (P := P) (w := w) (t := t) (t' := t') (ty := ty) (pos := pos) (af := af) (g := g) (dst := dst) ha p q hx hy (by rw [← Int.natCast_mul]; omega)
  rw [this]; simp

theorem rn_rem (ha : Has n env a) (p q : Nat) (hx : ev env x = some (en p)) (hy : ev env y = some (en q)) (hq : 0 < q) :
    (execOp a.eval ⟨dst, .binOp .rem t x y t', ty, pos, af, g⟩).run P w = .ok (.value (en (p % q))) w := by
  have h0 : ¬ ((q : Int) = 0) := by omega
  have h1 : (p : Int).tmod q = ((p % q : Nat) : Int) := rfl
  simp only [execOp, ha.ev hx, ha.ev hy, eqGuard, binOp, Op.intDiv, h1, if_neg h0]
  simp
theorem rn_quo (ha : Has n env a) (p q : Nat) (hx : ev env x = some (en p)) (hy : ev env y = some (en q)) (hq : 0 < q) (hp : p ≤ 9223372036854775807) :
    (execOp a.eval ⟨dst, .binOp .quo t x y t', ty, pos, af, g⟩).run P w = .ok (.value (en (p / q))) w := by
  have h0 : ¬ ((q : Int) = 0) := by omega
  have h1 : ((p : Int)).tdiv q = ((p / q : Nat) : Int) := by rw [Int.tdiv_eq_ediv_of_nonneg (by omega)]; simp
  have h2 : p / q ≤ p := Nat.div_le_self p q
  have h3 : ∀ r : Nat, r ≤ p → IntKind.i64.wrap (r : Int) = r := fun r hr => i64_in (by omega) (by omega)
  simp only [execOp, ha.ev hx, ha.ev hy, eqGuard, binOp, Op.intDiv, h1, if_neg h0, h3 _ h2]
  simp

theorem r_rem (ha : Has n env a) (p q : Int) (hx : ev env x = some (ei p)) (hy : ev env y = some (ei q)) (hq : q ≠ 0) :
    (execOp a.eval ⟨dst, .binOp .rem t x y t', ty, pos, af, g⟩).run P w = .ok (.value (ei (p.tmod q))) w := by
  simp [execOp, ha.ev hx, ha.ev hy, eqGuard, binOp, Op.intDiv, hq]
/- comparisons: integers of whatever kind -/
theorem r_lss (ha : Has n env a) {k : IntKind} (p q : Int) (c : Bool) (hx : ev env x = some (.int k p)) (hy : ev env y = some (.int k q)) (hc : decide (p < q) = c) :
    (execOp a.eval ⟨dst, .binOp .lss t x y t', ty, pos, af, g⟩).run P w = .ok (.value (.bool c)) w := by
  subst hc; simp [execOp, ha.ev hx, ha.ev hy, eqGuard, binOp, Op.intCmp]
theorem r_leq (ha : Has n env a) {k : IntKind} (p q : Int) (c : Bool) (hx : ev env x = some (.int k p)) (hy : ev env y = some (.int k q)) (hc : decide (p ≤ q) = c) :
    (execOp a.eval ⟨dst, .binOp .leq t x y t', ty, pos, af, g⟩).run P w = .ok (.value (.bool c)) w := by
  subst hc; simp [execOp, ha.ev hx, ha.ev hy, eqGuard, binOp, Op.intCmp]
theorem r_gtr (ha : Has n env a) {k : IntKind} (p q : Int) (c : Bool) (hx : ev env x = some (.int k p)) (hy : ev env y = some (.int k q)) (hc : decide (q < p) = c) :
    (execOp a.eval ⟨dst, .binOp .gtr t x y t', ty, pos, af, g⟩).run P w = .ok (.value (.bool c)) w := by
  subst hc; simp [execOp, ha.ev hx, ha.ev hy, eqGuard, binOp, Op.intCmp]
theorem r_geq (ha : Has n env a) {k : IntKind} (p q : Int) (c : Bool) (hx : ev env x = some (.int k p)) (hy : ev env y = some (.int k q)) (hc : decide (q ≤ p) = c) :
    (execOp a.eval ⟨dst, .binOp .geq t x y t', ty, pos, af, g⟩).run P w = .ok (.value (.bool c)) w := by
  subst hc; simp [execOp, ha.ev hx, ha.ev hy, eqGuard, binOp, Op.intCmp]
theorem r_eql (ha : Has n env a) {k : IntKind} (p q : Int) (c : Bool) (hx : ev env x = some (.int k p)) (hy : ev env y = some (.int k q)) (hc : decide (p = q) = c) :
    (execOp a.eval ⟨dst, .binOp .eql t x y t', ty, pos, af, g⟩).run P w = .ok (.value (.bool c)) w := by
  subst hc; simp [execOp, ha.ev hx, ha.ev hy, eqGuard, binOp, Op.intCmp]
  exact Bool.beq_eq_decide_eq _ _
theorem r_neq (ha : Has n env a) {k : IntKind} (p q : Int) (c : Bool) (hx : ev env x = some (.int k p)) (hy : ev env y = some (.int k q)) (hc : decide (p ≠ q) = c) :
    (execOp a.eval ⟨dst, .binOp .neq t x y t', ty, pos, af, g⟩).run P w = .ok (.value (.bool c)) w := by
  subst hc; simp [execOp, ha.ev hx, ha.ev hy, eqGuard, binOp, Op.intCmp]
  rfl

theorem r_not (ha : Has n env a) (b c : Bool) (hx : ev env x = some (.bool b)) (hc : (!b) = c) : (execOp a.eval ⟨dst, .unOp .not t x, ty, pos, af, g⟩).run P w = .ok (.value (.bool c)) w := by
  subst hc; simp [execOp, ha.ev hx, Op.unary]
end
end
end Go.Rx

/- The operations of the calculus: numbers without sign, and shifts. -/
namespace Go.Rx
open Go.RowKit

theorem wrap_u64 {z : Int} (h0 : 0 ≤ z) (h1 : z < 18446744073709551616) : IntKind.u64.wrap z = z := by
  unfold IntKind.wrap; simp [IntKind.bits, IntKind.signed]; omega
theorem wrap_u8 {z : Int} (h0 : 0 ≤ z) (h1 : z < 256) : IntKind.u8.wrap z = z := by
  unfold IntKind.wrap; simp [IntKind.bits, IntKind.signed]; omega
theorem mod_u64 (z : Int) : IntKind.u64.wrap z = z % 18446744073709551616 := by unfold IntKind.wrap; simp [IntKind.bits, IntKind.signed]
theorem mod_u32 (z : Int) : IntKind.u32.wrap z = z % 4294967296 := by unfold IntKind.wrap; simp [IntKind.bits, IntKind.signed]
theorem mod_u8 (z : Int) : IntKind.u8.wrap z = z % 256 := by unfold IntKind.wrap; simp [IntKind.bits, IntKind.signed]

theorem ofInt64 (x : UInt64) : BitVec.ofInt 64 (x.toNat : Int) = x.toBitVec := by simp
theorem ofInt8 (x : UInt8) : BitVec.ofInt 8 (x.toNat : Int) = x.toBitVec := by simp
theorem lt64 (x : UInt64) : (x.toNat : Int) < 18446744073709551616 := by have := x.toNat_lt; omega
theorem lt32 (x : UInt32) : (x.toNat : Int) < 4294967296 := by have := x.toNat_lt; omega
theorem lt8 (x : UInt8) : (x.toNat : Int) < 256 := by have := x.toNat_lt; omega

section
variable {P : Program} {n : Nat} {env : Env} {a : Act} {w : World} {dst : Option Tmp} {ty : TypeId} {pos : String} {af : Array Edge} {g : Option (Nat × Bool)} {x y z : Operand} {t t' : TypeId}

theorem back64 (r : UInt64) : IntKind.u64.wrap (r.toBitVec.toNat : Int) = (r.toNat : Int) := wrap_u64 (by omega) (lt64 r)
theorem back8 (r : UInt8) : IntKind.u8.wrap (r.toBitVec.toNat : Int) = (r.toNat : Int) := wrap_u8 (by omega) (lt8 r)

theorem ru_xor (ha : Has n env a) (p q : UInt64) (hx : ev env x = some (e64 p)) (hy : ev env y = some (e64 q)) :
    (execOp a.eval ⟨dst, .binOp .xor t x y t', ty, pos, af, g⟩).run P w = .ok (.value (e64 (p ^^^ q))) w := by
  have e : IntKind.u64.wrap ((BitVec.ofInt 64 (p.toNat : Int) ^^^ BitVec.ofInt 64 (q.toNat : Int)).toNat : Int) = ((p ^^^ q).toNat : Int) := by
    rw [ofInt64, ofInt64]; exact back64 (p ^^^ q)
  have h : Op.intBits .xor .u64 (p.toNat : Int) (q.toNat : Int) = pure (e64 (p ^^^ q)) := congrArg (fun z => pure (Value.int .u64 z)) e
  simp only [execOp, ha.ev hx, ha.ev hy, binOp, h]
  simp [eqGuard]
theorem ru_and (ha : Has n env a) (p q : UInt64) (hx : ev env x = some (e64 p)) (hy : ev env y = some (e64 q)) :
    (execOp a.eval ⟨dst, .binOp .and t x y t', ty, pos, af, g⟩).run P w = .ok (.value (e64 (p &&& q))) w := by
  have e : IntKind.u64.wrap ((BitVec.ofInt 64 (p.toNat : Int) &&& BitVec.ofInt 64 (q.toNat : Int)).toNat : Int) = ((p &&& q).toNat : Int) := by
    rw [ofInt64, ofInt64]; exact back64 (p &&& q)
  have h : Op.intBits .and .u64 (p.toNat : Int) (q.toNat : Int) = pure (e64 (p &&& q)) := congrArg (fun z => pure (Value.int .u64 z)) e
  simp only [execOp, ha.ev hx, ha.ev hy, binOp, h]
  simp [eqGuard]
theorem ru_or (ha : Has n env a) (p q : UInt64) (hx : ev env x = some (e64 p)) (hy : ev env y = some (e64 q)) :
    (execOp a.eval ⟨dst, .binOp .or t x y t', ty, pos, af, g⟩).run P w = .ok (.value (e64 (p ||| q))) w := by
  have e : IntKind.u64.wrap ((BitVec.ofInt 64 (p.toNat : Int) ||| BitVec.ofInt 64 (q.toNat : Int)).toNat : Int) = ((p ||| q).toNat : Int) := by
    rw [ofInt64, ofInt64]; exact back64 (p ||| q)
  have h : Op.intBits .or .u64 (p.toNat : Int) (q.toNat : Int) = pure (e64 (p ||| q)) := congrArg (fun z => pure (Value.int .u64 z)) e
  simp only [execOp, ha.ev hx, ha.ev hy, binOp, h]
  simp [eqGuard]
theorem ru_andNot (ha : Has n env a) (p q : UInt64) (hx : ev env x = some (e64 p)) (hy : ev env y = some (e64 q)) :
    (execOp a.eval ⟨dst, .binOp .andNot t x y t', ty, pos, af, g⟩).run P w = .ok (.value (e64 (p &&& ~~~q))) w := by
  have e : IntKind.u64.wrap ((BitVec.ofInt 64 (p.toNat : Int) &&& ~~~(BitVec.ofInt 64 (q.toNat : Int))).toNat : Int) = ((p &&& ~~~q).toNat : Int) := by
    rw [ofInt64, ofInt64]; exact back64 (p &&& ~~~q)
  have h : Op.intBits .andNot .u64 (p.toNat : Int) (q.toNat : Int) = pure (e64 (p &&& ~~~q)) := congrArg (fun z => pure (Value.int .u64 z)) e
  simp only [execOp, ha.ev hx, ha.ev hy, binOp, h]
  simp [eqGuard]
theorem rb_xor (ha : Has n env a) (p q : UInt8) (hx : ev env x = some (e8 p)) (hy : ev env y = some (e8 q)) :
    (execOp a.eval ⟨dst, .binOp .xor t x y t', ty, pos, af, g⟩).run P w = .ok (.value (e8 (p ^^^ q))) w := by
  have e : IntKind.u8.wrap ((BitVec.ofInt 8 (p.toNat : Int) ^^^ BitVec.ofInt 8 (q.toNat : Int)).toNat : Int) = ((p ^^^ q).toNat : Int) := by
    rw [ofInt8, ofInt8]; exact back8 (p ^^^ q)
  have h : Op.intBits .xor .u8 (p.toNat : Int) (q.toNat : Int) = pure (e8 (p ^^^ q)) := congrArg (fun z => pure (Value.int .u8 z)) e
  simp only [execOp, ha.ev hx, ha.ev hy, binOp, h]
  simp [eqGuard]
theorem rb_and (ha : Has n env a) (p q : UInt8) (hx : ev env x = some (e8 p)) (hy : ev env y = some (e8 q)) :
    (execOp a.eval ⟨dst, .binOp .and t x y t', ty, pos, af, g⟩).run P w = .ok (.value (e8 (p &&& q))) w := by
  have e : IntKind.u8.wrap ((BitVec.ofInt 8 (p.toNat : Int) &&& BitVec.ofInt 8 (q.toNat : Int)).toNat : Int) = ((p &&& q).toNat : Int) := by
    rw [ofInt8, ofInt8]; exact back8 (p &&& q)
  have h : Op.intBits .and .u8 (p.toNat : Int) (q.toNat : Int) = pure (e8 (p &&& q)) := congrArg (fun z => pure (Value.int .u8 z)) e
  simp only [execOp, ha.ev hx, ha.ev hy, binOp, h]
  simp [eqGuard]
theorem rb_or (ha : Has n env a) (p q : UInt8) (hx : ev env x = some (e8 p)) (hy : ev env y = some (e8 q)) :
    (execOp a.eval ⟨dst, .binOp .or t x y t', ty, pos, af, g⟩).run P w = .ok (.value (e8 (p ||| q))) w := by
  have e : IntKind.u8.wrap ((BitVec.ofInt 8 (p.toNat : Int) ||| BitVec.ofInt 8 (q.toNat : Int)).toNat : Int) = ((p ||| q).toNat : Int) := by
    rw [ofInt8, ofInt8]; exact back8 (p ||| q)
  have h : Op.intBits .or .u8 (p.toNat : Int) (q.toNat : Int) = pure (e8 (p ||| q)) := congrArg (fun z => pure (Value.int .u8 z)) e
  simp only [execOp, ha.ev hx, ha.ev hy, binOp, h]
  simp [eqGuard]
theorem ru_add (ha : Has n env a) (p q : UInt64) (hx : ev env x = some (e64 p)) (hy : ev env y = some (e64 q)) :
    (execOp a.eval ⟨dst, .binOp .add t x y t', ty, pos, af, g⟩).run P w = .ok (.value (e64 (p + q))) w := by
  have e : IntKind.u64.wrap ((p.toNat : Int) + q.toNat) = ((p + q).toNat : Int) := by rw [mod_u64, UInt64.toNat_add]; omega
  simp [execOp, ha.ev hx, ha.ev hy, eqGuard, binOp, Op.intArith, e, -UInt64.toNat_add]
theorem ru_sub (ha : Has n env a) (p q : UInt64) (hx : ev env x = some (e64 p)) (hy : ev env y = some (e64 q)) :
    (execOp a.eval ⟨dst, .binOp .sub t x y t', ty, pos, af, g⟩).run P w = .ok (.value (e64 (p - q))) w := by
  have e : IntKind.u64.wrap ((p.toNat : Int) - q.toNat) = ((p - q).toNat : Int) := by
    rw [mod_u64, UInt64.toNat_sub]; have := lt64 p; have := lt64 q; omega
  simp [execOp, ha.ev hx, ha.ev hy, eqGuard, binOp, Op.intArith, e]
theorem ru_quo (ha : Has n env a) (p q : UInt64) (hx : ev env x = some (e64 p)) (hy : ev env y = some (e64 q)) (hq : 0 < q.toNat) :
    (execOp a.eval ⟨dst, .binOp .quo t x y t', ty, pos, af, g⟩).run P w = .ok (.value (e64 (p / q))) w := by
  have h0 : ¬ ((q.toNat : Int) = 0) := by omega
  have h1 : ((p.toNat : Int)).tdiv q.toNat = ((p / q).toNat : Int) := by rw [Int.tdiv_eq_ediv_of_nonneg (by omega), UInt64.toNat_div]; simp
  have h2 := lt64 (p / q)
  simp only [execOp, ha.ev hx, ha.ev hy, eqGuard, binOp, Op.intDiv, h1, if_neg h0, wrap_u64 (by omega) h2]
  simp
theorem ru_rem (ha : Has n env a) (p q : UInt64) (hx : ev env x = some (e64 p)) (hy : ev env y = some (e64 q)) (hq : 0 < q.toNat) :
    (execOp a.eval ⟨dst, .binOp .rem t x y t', ty, pos, af, g⟩).run P w = .ok (.value (e64 (p % q))) w := by
  have h0 : ¬ ((q.toNat : Int) = 0) := by omega
  have h1 : ((p.toNat : Int)).tmod q.toNat = ((p % q).toNat : Int) := by rw [UInt64.toNat_mod]; rfl
  simp only [execOp, ha.ev hx, ha.ev hy, eqGuard, binOp, Op.intDiv, h1, if_neg h0]
  simp

/-! ### Shifts: the count a number no less than nought, of whatever kind -/
theorem fdiv_nat (p k : Nat) : Int.fdiv (p : Int) (2 ^ k) = ((p >>> k : Nat) : Int) := by
  rw [Int.fdiv_eq_ediv_of_nonneg _ (by exact Int.pow_nonneg (by omega)), Nat.shiftRight_eq_div_pow]
  simp

theorem ru_shr (ha : Has n env a) (p : UInt64) {k : IntKind} (q : Nat) (hx : ev env x = some (e64 p)) (hy : ev env y = some (.int k q)) (hq : q < 64) :
    (execOp a.eval ⟨dst, .binOp .shr t x y t', ty, pos, af, g⟩).run P w = .ok (.value (e64 (p >>> UInt64.ofNat q))) w := by
  have e : Int.fdiv (p.toNat : Int) (2 ^ q) = ((p >>> UInt64.ofNat q).toNat : Int) := by
    rw [fdiv_nat, UInt64.toNat_shiftRight]
    have : (UInt64.ofNat q).toNat % 64 = q := by simp; omega
    rw [this]
  have h : Op.shift .shr .u64 (p.toNat : Int) k (q : Int) = pure (e64 (p >>> UInt64.ofNat q)) := by
    unfold Op.shift
    rw [if_neg (by omega)]
    simp only [Int.toNat_natCast, IntKind.bits, show min q 64 = q by omega, e]
  simp only [execOp, ha.ev hx, ha.ev hy, binOp, h]
  simp [eqGuard]
theorem ru_shl (ha : Has n env a) (p : UInt64) {k : IntKind} (q : Nat) (hx : ev env x = some (e64 p)) (hy : ev env y = some (.int k q)) (hq : q < 64) :
    (execOp a.eval ⟨dst, .binOp .shl t x y t', ty, pos, af, g⟩).run P w = .ok (.value (e64 (p <<< UInt64.ofNat q))) w := by
  have e : IntKind.u64.wrap ((p.toNat : Int) * 2 ^ q) = ((p <<< UInt64.ofNat q).toNat : Int) := by
    have h2 : (UInt64.ofNat q).toNat % 64 = q := by simp; omega
    rw [mod_u64, UInt64.toNat_shiftLeft, h2, Nat.shiftLeft_eq, Int.natCast_emod, Int.natCast_mul, Int.natCast_pow]
    rfl
  have h : Op.shift .shl .u64 (p.toNat : Int) k (q : Int) = pure (e64 (p <<< UInt64.ofNat q)) := by
    unfold Op.shift
    rw [if_neg (by omega)]
    simp only [Int.toNat_natCast, IntKind.bits, show min q 64 = q by omega, e]
  simp only [execOp, ha.ev hx, ha.ev hy, binOp, h]
  simp [eqGuard]
theorem rb_shr (ha : Has n env a) (p : UInt8) {k : IntKind} (q : Nat) (hx : ev env x = some (e8 p)) (hy : ev env y = some (.int k q)) (hq : q < 8) :
    (execOp a.eval ⟨dst, .binOp .shr t x y t', ty, pos, af, g⟩).run P w = .ok (.value (e8 (p >>> UInt8.ofNat q))) w := by
  have e : Int.fdiv (p.toNat : Int) (2 ^ q) = ((p >>> UInt8.ofNat q).toNat : Int) := by
    rw [fdiv_nat, UInt8.toNat_shiftRight]
    have : (UInt8.ofNat q).toNat % 8 = q := by simp; omega
    rw [this]
  have h : Op.shift .shr .u8 (p.toNat : Int) k (q : Int) = pure (e8 (p >>> UInt8.ofNat q)) := by
    unfold Op.shift
    rw [if_neg (by omega)]
    simp only [Int.toNat_natCast, IntKind.bits, show min q 8 = q by omega, e]
  simp only [execOp, ha.ev hx, ha.ev hy, binOp, h]
  simp [eqGuard]
theorem rb_shl (ha : Has n env a) (p : UInt8) {k : IntKind} (q : Nat) (hx : ev env x = some (e8 p)) (hy : ev env y = some (.int k q)) (hq : q < 8) :
    (execOp a.eval ⟨dst, .binOp .shl t x y t', ty, pos, af, g⟩).run P w = .ok (.value (e8 (p <<< UInt8.ofNat q))) w := by
  have e : IntKind.u8.wrap ((p.toNat : Int) * 2 ^ q) = ((p <<< UInt8.ofNat q).toNat : Int) := by
    have h2 : (UInt8.ofNat q).toNat % 8 = q := by simp; omega
    rw [mod_u8, UInt8.toNat_shiftLeft, h2, Nat.shiftLeft_eq, Int.natCast_emod, Int.natCast_mul, Int.natCast_pow]
    rfl
  have h : Op.shift .shl .u8 (p.toNat : Int) k (q : Int) = pure (e8 (p <<< UInt8.ofNat q)) := by
    unfold Op.shift
    rw [if_neg (by omega)]
    simp only [Int.toNat_natCast, IntKind.bits, show min q 8 = q by omega, e]
  simp only [execOp, ha.ev hx, ha.ev hy, binOp, h]
  simp [eqGuard]

/- int: shifts and masks -/
theorem rn_shr (ha : Has n env a) (p : Nat) {k : IntKind} (q : Nat) (hx : ev env x = some (en p)) (hy : ev env y = some (.int k q)) (hq : q < 64) :
    (execOp a.eval ⟨dst, .binOp .shr t x y t', ty, pos, af, g⟩).run P w = .ok (.value (en (p >>> q))) w := by
  have h : Op.shift .shr .i64 (p : Int) k (q : Int) = pure (en (p >>> q)) := by
    unfold Op.shift
    rw [if_neg (by omega)]
    simp only [Int.toNat_natCast, IntKind.bits, show min q 64 = q by omega, fdiv_nat]
  simp only [execOp, ha.ev hx, ha.ev hy, binOp, h]
  simp [eqGuard]
theorem rn_shl (ha : Has n env a) (p : Nat) {k : IntKind} (q : Nat) (hx : ev env x = some (en p)) (hy : ev env y = some (.int k q)) (hq : q < 64) (hb : p * 2 ^ q ≤ 9223372036854775807) :
    (execOp a.eval ⟨dst, .binOp .shl t x y t', ty, pos, af, g⟩).run P w = .ok (.value (en (p * 2 ^ q))) w := by
  have e : IntKind.i64.wrap ((p : Int) * 2 ^ q) = ((p * 2 ^ q : Nat) : Int) := by
    rw [show ((p : Int) * 2 ^ q) = ((p * 2 ^ q : Nat) : Int) by rw [Int.natCast_mul, Int.natCast_pow]; rfl]
    exact i64_in (by omega) (by omega)
  have h : Op.shift .shl .i64 (p : Int) k (q : Int) = pure (en (p * 2 ^ q)) := by
    unfold Op.shift
    rw [if_neg (by omega)]
    simp only [Int.toNat_natCast, IntKind.bits, show min q 64 = q by omega, e]
  simp only [execOp, ha.ev hx, ha.ev hy, binOp, h]
  simp [eqGuard]
theorem r_shr (ha : Has n env a) (p : Int) {k : IntKind} (q : Nat) (hx : ev env x = some (ei p)) (hy : ev env y = some (.int k q)) (hq : q < 64) :
    (execOp a.eval ⟨dst, .binOp .shr t x y t', ty, pos, af, g⟩).run P w = .ok (.value (ei (p / 2 ^ q))) w := by
  have e : Int.fdiv p (2 ^ q) = p / 2 ^ q := Int.fdiv_eq_ediv_of_nonneg _ (by exact Int.pow_nonneg (by omega))
  have h : Op.shift .shr .i64 p k (q : Int) = pure (ei (p / 2 ^ q)) := by
    unfold Op.shift
    rw [if_neg (by omega)]
    simp only [Int.toNat_natCast, IntKind.bits, show min q 64 = q by omega, e]
  simp only [execOp, ha.ev hx, ha.ev hy, binOp, h]
  simp [eqGuard]

theorem toNat_mask (p : Int) (j : Nat) (hj : j ≤ 63) : (BitVec.ofInt 64 p &&& BitVec.ofInt 64 ((2 ^ j - 1 : Nat) : Int)).toNat = (p % (2 ^ j : Nat)).toNat := by
  have h1 : BitVec.ofInt 64 ((2 ^ j - 1 : Nat) : Int) = BitVec.ofNat 64 (2 ^ j - 1) := by simp
  have hlt : 2 ^ j - 1 < 2 ^ 64 := by have : 2 ^ j ≤ 2 ^ 63 := Nat.pow_le_pow_right (by omega) hj; omega
  rw [h1, BitVec.toNat_and, BitVec.toNat_ofNat, Nat.mod_eq_of_lt hlt, Nat.and_two_pow_sub_one_eq_mod, BitVec.toNat_ofInt]
  have hd : ((2 ^ j : Nat) : Int) ∣ (2 ^ 64 : Nat) := Int.natCast_dvd_natCast.2 (Nat.pow_dvd_pow 2 (by omega))
  have hp : (0 : Int) < (2 ^ j : Nat) := Int.natCast_pos.2 (Nat.two_pow_pos j)
  have h0 : 0 ≤ p % (2 ^ 64 : Nat) := Int.emod_nonneg _ (by decide)
  have h2 : (p % (2 ^ 64 : Nat)) % (2 ^ j : Nat) = p % (2 ^ j : Nat) := Int.emod_emod_of_dvd p hd
  have h3 : ((p % (2 ^ 64 : Nat)).toNat % 2 ^ j : Nat) = ((p % (2 ^ 64 : Nat)) % (2 ^ j : Nat)).toNat := by
    rw [Int.toNat_emod h0 (Int.le_of_lt hp), Int.toNat_natCast]
  rw [h3, h2]

/-- 'x & (2^j - 1)' of any int. -/
theorem r_mask (ha : Has n env a) (p : Int) (j : Nat) (hj : j ≤ 62) {m : Nat} (hm : m = 2 ^ j - 1) (hx : ev env x = some (ei p)) (hy : ev env y = some (en m)) :
    (execOp a.eval ⟨dst, .binOp .and t x y t', ty, pos, af, g⟩).run P w = .ok (.value (en (p % (2 ^ j : Nat)).toNat)) w := by
  subst hm
  have e := toNat_mask p j (by omega)
  have hlt : (p % (2 ^ j : Nat)).toNat < 2 ^ j := by
    have hp : (0 : Int) < (2 ^ j : Nat) := Int.natCast_pos.2 (Nat.two_pow_pos j)
    have := Int.emod_lt_of_pos p hp
    have := Int.emod_nonneg p (Int.ne_of_gt hp)
    omega
  have hle : 2 ^ j ≤ 2 ^ 62 := Nat.pow_le_pow_right (by omega) hj
  have e2 : IntKind.i64.wrap (((p % (2 ^ j : Nat)).toNat : Nat) : Int) = ((p % (2 ^ j : Nat)).toNat : Int) := i64_in (by omega) (by omega)
  have h : Op.intBits .and .i64 p ((2 ^ j - 1 : Nat) : Int) = pure (en (p % (2 ^ j : Nat)).toNat) := by
    have e3 : IntKind.i64.wrap (((BitVec.ofInt 64 p &&& BitVec.ofInt 64 ((2 ^ j - 1 : Nat) : Int)).toNat : Nat) : Int) = ((p % (2 ^ j : Nat)).toNat : Int) := by rw [e]; exact e2
    exact congrArg (fun z => pure (Value.int .i64 z)) e3
  simp only [execOp, ha.ev hx, ha.ev hy, binOp, h]
  simp [eqGuard]
end
end Go.Rx

/- Plain functions: the permutation as the program reckons it. No program and no memory here. -/
namespace Go.Rx

/-- A shift to the right by whatever number. -/
def shrG (p : UInt64) (q : Nat) : UInt64 := if q ≥ 64 then 0 else p >>> UInt64.ofNat q
def rotl (x : UInt64) (k : Nat) : UInt64 := x <<< UInt64.ofNat (k % 2 ^ 6) ||| shrG x (64 - k % 2 ^ 6)

def turns : List Nat := [0, 1, 62, 28, 27, 36, 44, 6, 55, 20, 3, 10, 43, 25, 39, 41, 45, 15, 21, 8, 18, 2, 61, 56, 14]
theorem turns_lt : ∀ i, i < 25 → turns.getD i 0 < 64 := by decide
def consts : List UInt64 := [0x0000000000000001, 0x0000000000008082, 0x800000000000808a, 0x8000000080008000, 0x000000000000808b, 0x0000000080000001, 0x8000000080008081, 0x8000000000008009,
  0x000000000000008a, 0x0000000000000088, 0x0000000080008009, 0x000000008000000a, 0x000000008000808b, 0x800000000000008b, 0x8000000000008089, 0x8000000000008003,
  0x8000000000008002, 0x8000000000000080, 0x000000000000800a, 0x800000008000000a, 0x8000000080008081, 0x8000000000008080, 0x0000000080000001, 0x8000000080008008]

def thC (l : List UInt64) : Nat → List UInt64
  | 0 => List.replicate 5 0
  | k + 1 => (thC l k).set k (l.getD k 0 ^^^ l.getD (k + 5) 0 ^^^ l.getD (k + 10) 0 ^^^ l.getD (k + 15) 0 ^^^ l.getD (k + 20) 0)
theorem thC_len (l : List UInt64) : ∀ k, (thC l k).length = 5
  | 0 => List.length_replicate
  | k + 1 => by rw [thC, List.length_set]; exact thC_len l k
def thA (l : List UInt64) : Nat → List UInt64
  | 0 => l
  | k + 1 => (thA l k).set k ((thA l k).getD k 0 ^^^ ((thC l 5).getD ((k % 5 + 4) % 5) 0 ^^^ rotl ((thC l 5).getD ((k % 5 + 1) % 5) 0) 1))
theorem thA_len (l : List UInt64) : ∀ k, (thA l k).length = l.length
  | 0 => rfl
  | k + 1 => by rw [thA, List.length_set]; exact thA_len l k
def theta (l : List UInt64) : List UInt64 := thA l 25
theorem theta_len (l : List UInt64) : (theta l).length = l.length := thA_len l 25

def rhoA (l : List UInt64) : Nat → List UInt64
  | 0 => l
  | k + 1 => (rhoA l k).set k (rotl ((rhoA l k).getD k 0) (turns.getD k 0))
theorem rhoA_len (l : List UInt64) : ∀ k, (rhoA l k).length = l.length
  | 0 => rfl
  | k + 1 => by rw [rhoA, List.length_set]; exact rhoA_len l k
def rho (l : List UInt64) : List UInt64 := rhoA l 25
theorem rho_len (l : List UInt64) : (rho l).length = l.length := rhoA_len l 25

def piA (l : List UInt64) : Nat → List UInt64
  | 0 => List.replicate 25 0
  | k + 1 => (piA l k).set k (l.getD ((k % 5 + 3 * (k / 5)) % 5 + 5 * (k % 5)) 0)
theorem piA_len (l : List UInt64) : ∀ k, (piA l k).length = 25
  | 0 => List.length_replicate
  | k + 1 => by rw [piA, List.length_set]; exact piA_len l k
def pi (l : List UInt64) : List UInt64 := piA l 25
theorem pi_len (l : List UInt64) : (pi l).length = 25 := piA_len l 25

def chiA (l : List UInt64) : Nat → List UInt64
  | 0 => l
  | k + 1 => (chiA l k).set k ((chiA l k).getD k 0 ^^^ (l.getD (k - k % 5 + (k % 5 + 2) % 5) 0 &&& ~~~(l.getD (k - k % 5 + (k % 5 + 1) % 5) 0)))
theorem chiA_len (l : List UInt64) : ∀ k, (chiA l k).length = l.length
  | 0 => rfl
  | k + 1 => by rw [chiA, List.length_set]; exact chiA_len l k
def chi (l : List UInt64) : List UInt64 := chiA l 25
theorem chi_len (l : List UInt64) : (chi l).length = l.length := chiA_len l 25

theorem consts_ne : ∀ k, k < 24 → consts.getD k 0 ≠ 0 := by decide
/-- For a round from 0 to 23. -/
def iota (l : List UInt64) (k : Nat) : List UInt64 := l.set 0 (l.getD 0 0 ^^^ consts.getD k 0)
theorem iota_len (l : List UInt64) (k : Nat) : (iota l k).length = l.length := by rw [iota, List.length_set]

theorem iota_zero (k : Nat) (hk : k < 24) : ¬ iota (List.replicate 25 0) k = List.replicate 25 0 := by
  intro h
  have h2 := congrArg (fun m => m.getD 0 0) h
  simp [iota, List.replicate] at h2
  exact consts_ne k hk h2

def kround (l : List UInt64) (k : Nat) : List UInt64 := iota (chi (pi (rho (theta l)))) k
theorem kround_len (l : List UInt64) (k : Nat) : (kround l k).length = 25 := by rw [kround, iota_len, chi_len, pi_len]

def kfA (l : List UInt64) : Nat → List UInt64
  | 0 => l
  | k + 1 => kround (kfA l k) k
theorem kfA_len (l : List UInt64) (h : l.length = 25) : ∀ k, (kfA l k).length = 25
  | 0 => h
  | _ + 1 => kround_len _ _
def kf (l : List UInt64) : List UInt64 := kfA l 24
theorem kf_len (l : List UInt64) (h : l.length = 25) : (kf l).length = 25 := kfA_len l h 24
end Go.Rx

/- The operations of the calculus: conversions, slices. -/
namespace Go.Rx
open Go.RowKit

theorem inj64 (x y : UInt64) (h : (x.toNat : Int) = y.toNat) : x = y := UInt64.toNat_inj.1 (by omega)
section arrays
variable {P : Program} {w : World}
theorem run_part1 {e o : Nat} {C : Array Value} {u : Value} (hagg : ∀ w, (isAgg e).run P w = .ok false w) (hu : C[o]? = some u) : (part e C o).run P w = .ok u w := by
  simp [part, hagg, hu]

theorem loop_eq {e d : Nat} {len : Nat} {k : IntKind} (hE : P.underlying e = some (.int k)) (hagg : ∀ w, (isAgg e).run P w = .ok false w) (p q : List Int) (hp : p.length = len) (hq : q.length = len) (F : Nat → Option Bool × Unit → Sem (ForInStep (Option Bool × Unit)))
    (hF : ∀ i s, F i s = (do
        let a ← part e (p.map (Value.int k)).toArray (i * 1)
        let b ← part e (q.map (Value.int k)).toArray (i * 1)
        let r ← Op.equalIn (d + 1) e a b
        if (!r) = true then pure (ForInStep.done (some false, ())) else pure (ForInStep.yield (none, ())))) :
    ∀ (m i : Nat), i + m = len → (forIn (List.range' i m) ((none : Option Bool), ()) F).run P w = .ok (if p.drop i = q.drop i then none else some false, ()) w := by
  intro m
  induction m with
  | zero =>
    intro i hi
    rw [List.drop_of_length_le (by omega), List.drop_of_length_le (by omega)]
    simp
  | succ m ih =>
    intro i hi
    have h1 : i < p.length := by omega
    have h2 : i < q.length := by omega
    rw [List.range'_succ, List.forIn_cons, hF]
    have e1 : (part e (p.map (Value.int k)).toArray (i * 1)).run P w = .ok (.int k p[i]) w := run_part1 hagg (by simp [h1])
    have e2 : (part e (q.map (Value.int k)).toArray (i * 1)).run P w = .ok (.int k q[i]) w := run_part1 hagg (by simp [h2])
    simp only [Sem.run_bind, e1, e2, Result.andThen_ok, run_equalIn_int w d e k k _ _ hE]
    by_cases hpq : p[i] = q[i]
    · have hd : (p.drop i = q.drop i) ↔ (p.drop (i + 1) = q.drop (i + 1)) := by
        rw [List.drop_eq_getElem_cons h1, List.drop_eq_getElem_cons h2]; simp only [hpq, List.cons.injEq, true_and]
      have := ih (i + 1) (by omega)
      simp only [hpq, beq_self_eq_true, Bool.not_true, Bool.false_eq_true, if_false, Sem.run_pure, Result.andThen_ok, hd]
      exact this
    · have hd : ¬ (p.drop i = q.drop i) := by
        rw [List.drop_eq_getElem_cons h1, List.drop_eq_getElem_cons h2]; intro h; simp only [List.cons.injEq] at h; exact hpq h.1
      simp [hpq, hd]

theorem run_equalArr {t e d len : Nat} {k : IntKind} (p q : List Int) (hp : p.length = len) (hq : q.length = len) (hT : ∀ w, (underlying t).run P w = .ok (.array len e) w) (hsz : ∀ w, (sizeOf e).run P w = .ok 1 w) (hE : P.underlying e = some (.int k)) (hagg : ∀ w, (isAgg e).run P w = .ok false w) :
    (Op.equalIn (d+2) t (.agg (p.map (Value.int k)).toArray) (.agg (q.map (Value.int k)).toArray)).run P w = .ok (decide (p = q)) w := by
  rw [Op.equalIn]
  simp only [Sem.run_bind, hT, hsz, Result.andThen_ok]
  rw [Std.Legacy.Range.forIn_eq_forIn_range']
  simp only [Std.Legacy.Range.size, Nat.sub_zero, Nat.add_sub_cancel, Nat.div_one]
  have h := loop_eq (P := P) (w := w) (d := d) hE hagg p q hp hq _ (fun i s => rfl) len 0 (by omega)
  rw [h]
  by_cases hpq : p = q <;> simp [hpq]

section
variable {n : Nat} {env : Env} {a : Act} {dst : Option Tmp} {ty : TypeId} {pos : String} {af : Array Edge} {g : Option (Nat × Bool)} {x y z : Operand} {t t' : TypeId} {v : Value}
theorem run_eqArr {e len : Nat} {k : IntKind} (p q : List Int) (hp : p.length = len) (hq : q.length = len) (hT : ∀ w, (underlying t).run P w = .ok (.array len e) w) (hsz : ∀ w, (sizeOf e).run P w = .ok 1 w) (hE : P.underlying e = some (.int k)) (hagg : ∀ w, (isAgg e).run P w = .ok false w) :
    (binOp .eql t (.agg (p.map (Value.int k)).toArray) (.agg (q.map (Value.int k)).toArray)).run P w = .ok (.bool (decide (p = q))) w := by
  have h := run_equalArr (P := P) (w := w) (d := 9998) p q hp hq hT hsz hE hagg
  simp only [binOp, Op.equal, Op.maxDepth, Sem.run_bind, h, Result.andThen_ok]
  simp

theorem r_eqA {α : Type} [DecidableEq α] {f : α → Int} {e len : Nat} {k : IntKind} (hf : ∀ x y : α, f x = f y → x = y) (p q : List α) (ha : Has n env a) (hx : ev env x = some (.agg (p.map fun z => Value.int k (f z)).toArray)) (hy : ev env y = some (.agg (q.map fun z => Value.int k (f z)).toArray)) (hp : p.length = len) (hq : q.length = len)
    (hG : P.eqGuardType P.depth t = false) (hT : ∀ w, (underlying t).run P w = .ok (.array len e) w) (hsz : ∀ w, (sizeOf e).run P w = .ok 1 w) (hE : P.underlying e = some (.int k)) (hagg : ∀ w, (isAgg e).run P w = .ok false w) (c : Bool) (hc : decide (p = q) = c) :
    (execOp a.eval ⟨dst, .binOp .eql t x y t', ty, pos, af, g⟩).run P w = .ok (.value (.bool c)) w := by
  subst hc
  have h := run_eqArr (P := P) (w := w) (t := t) (k := k) (p.map f) (q.map f) (by simpa using hp) (by simpa using hq) hT hsz hE hagg
  have hinj : (p.map f = q.map f) ↔ (p = q) := ⟨fun e => List.map_inj_right (fun x y h => hf x y h) |>.1 e, fun e => by rw [e]⟩
  simp only [List.map_map, hinj] at h
  have e0 : (eqGuard .eql t x y (.agg (p.map fun z => Value.int k (f z)).toArray) (.agg (q.map fun z => Value.int k (f z)).toArray)).run P w = .ok () w := by
    simp [eqGuard, hG]
  simp only [execOp, ha.ev hx, ha.ev hy, Sem.run_bind, e0, Result.andThen_ok]
  have h' : (binOp .eql t (.agg (p.map fun z => Value.int k (f z)).toArray) (.agg (q.map fun z => Value.int k (f z)).toArray)).run P w = .ok (.bool (decide (p = q))) w := h
  rw [h']
  simp
end
end arrays

section
variable {P : Program} {n : Nat} {env : Env} {a : Act} {w w' : World} {dst : Option Tmp} {ty : TypeId} {pos : String} {af : Array Edge} {g : Option (Nat × Bool)} {x y z : Operand} {t t' : TypeId} {v : Value}

theorem n_of {s : Sem Next} {p : Int} {k : Nat} (h : s.run P w = .ok (.value (ei p)) w) (e : p = (k : Int)) : s.run P w = .ok (.value (en k)) w := by subst e; exact h
theorem z_of {s : Sem Next} {p k : Int} (h : s.run P w = .ok (.value (ei p)) w) (e : p = k) : s.run P w = .ok (.value (ei k)) w := by subst e; exact h

/-! ### Conversions -/
theorem r_conv_int (ha : Has n env a) {k f : IntKind} {s d : TypeId} {m r : Int} (hs : ∀ w, (underlying s).run P w = .ok (.int f) w) (hd : ∀ w, (underlying d).run P w = .ok (.int k) w) (hx : ev env x = some (.int f m)) (hr : k.wrap m = r) :
    (execOp a.eval ⟨dst, .convert s d x, ty, pos, af, g⟩).run P w = .ok (.value (.int k r)) w := by
  subst hr; simp [execOp, ha.ev hx, convert, hs, hd, Conv.intToInt]
theorem r_conv_u8_i64 (ha : Has n env a) (p : UInt8) {s d : TypeId} (hs : ∀ w, (underlying s).run P w = .ok (.int .u8) w) (hd : ∀ w, (underlying d).run P w = .ok (.int .i64) w) (hx : ev env x = some (e8 p)) :
    (execOp a.eval ⟨dst, .convert s d x, ty, pos, af, g⟩).run P w = .ok (.value (en p.toNat)) w :=
  r_conv_int ha hs hd hx (i64_in (by omega) (by have := lt8 p; omega))
theorem r_conv_u32_i64 (ha : Has n env a) (p : UInt32) {s d : TypeId} (hs : ∀ w, (underlying s).run P w = .ok (.int .u32) w) (hd : ∀ w, (underlying d).run P w = .ok (.int .i64) w) (hx : ev env x = some (e32 p)) :
    (execOp a.eval ⟨dst, .convert s d x, ty, pos, af, g⟩).run P w = .ok (.value (en p.toNat)) w :=
  r_conv_int ha hs hd hx (i64_in (by omega) (by have := lt32 p; omega))
theorem r_conv_n_u64 (ha : Has n env a) (p : Nat) {s d : TypeId} (hs : ∀ w, (underlying s).run P w = .ok (.int .i64) w) (hd : ∀ w, (underlying d).run P w = .ok (.int .u64) w) (hx : ev env x = some (en p)) (hp : p ≤ 9223372036854775807) :
    (execOp a.eval ⟨dst, .convert s d x, ty, pos, af, g⟩).run P w = .ok (.value (.int .u64 (p : Int))) w :=
  r_conv_int ha hs hd hx (wrap_u64 (by omega) (by omega))
theorem r_conv_n_u8w (ha : Has n env a) (p : Nat) {s d : TypeId} (hs : ∀ w, (underlying s).run P w = .ok (.int .i64) w) (hd : ∀ w, (underlying d).run P w = .ok (.int .u8) w) (hx : ev env x = some (en p)) :
    (execOp a.eval ⟨dst, .convert s d x, ty, pos, af, g⟩).run P w = .ok (.value (e8 (UInt8.ofNat p))) w :=
  r_conv_int ha hs hd hx (by rw [mod_u8, UInt8.toNat_ofNat']; simp)
theorem r_conv_n_u32w (ha : Has n env a) (p : Nat) {s d : TypeId} (hs : ∀ w, (underlying s).run P w = .ok (.int .i64) w) (hd : ∀ w, (underlying d).run P w = .ok (.int .u32) w) (hx : ev env x = some (en p)) :
    (execOp a.eval ⟨dst, .convert s d x, ty, pos, af, g⟩).run P w = .ok (.value (e32 (UInt32.ofNat p))) w :=
  r_conv_int ha hs hd hx (by rw [mod_u32, UInt32.toNat_ofNat']; simp)
theorem r_conv_u8_u64 (ha : Has n env a) (p : UInt8) {s d : TypeId} (hs : ∀ w, (underlying s).run P w = .ok (.int .u8) w) (hd : ∀ w, (underlying d).run P w = .ok (.int .u64) w) (hx : ev env x = some (e8 p)) :
    (execOp a.eval ⟨dst, .convert s d x, ty, pos, af, g⟩).run P w = .ok (.value (e64 p.toUInt64)) w :=
  r_conv_int ha hs hd hx (by rw [UInt8.toNat_toUInt64]; exact wrap_u64 (by omega) (by have := lt8 p; omega))
theorem r_conv_u64_u8 (ha : Has n env a) (p : UInt64) {s d : TypeId} (hs : ∀ w, (underlying s).run P w = .ok (.int .u64) w) (hd : ∀ w, (underlying d).run P w = .ok (.int .u8) w) (hx : ev env x = some (e64 p)) :
    (execOp a.eval ⟨dst, .convert s d x, ty, pos, af, g⟩).run P w = .ok (.value (e8 p.toUInt8)) w :=
  r_conv_int ha hs hd hx (by rw [mod_u8, UInt64.toNat_toUInt8]; omega)
theorem rn_min (ha : Has n env a) (p q : Nat) {tys : Array TypeId} (hx : ev env x = some (en p)) (hy : ev env y = some (en q)) :
    (execOp a.eval ⟨dst, .call ⟨.builtin .min, #[x, y], tys⟩, ty, pos, af, g⟩).run P w = .ok (.value (en (min p q))) w := by
  simp [execOp, resolve, ha.ev hx, ha.ev hy, invoke, builtin, Builtin.min_, Builtin.min2]
  omega
theorem rn_max (ha : Has n env a) (p q : Nat) {tys : Array TypeId} (hx : ev env x = some (en p)) (hy : ev env y = some (en q)) :
    (execOp a.eval ⟨dst, .call ⟨.builtin .max, #[x, y], tys⟩, ty, pos, af, g⟩).run P w = .ok (.value (en (max p q))) w := by
  simp [execOp, resolve, ha.ev hx, ha.ev hy, invoke, builtin, Builtin.max_, Builtin.max2]
  omega
/-! ### A u64 told by a number -/
theorem rx_mask (ha : Has n env a) (p : Nat) (j : Nat) (hj : j ≤ 62) {m : Nat} (hm : m = 2 ^ j - 1) (hp : p ≤ 9223372036854775807) (hx : ev env x = some (.int .u64 (p : Int))) (hy : ev env y = some (.int .u64 (m : Int))) :
    (execOp a.eval ⟨dst, .binOp .and t x y t', ty, pos, af, g⟩).run P w = .ok (.value (.int .u64 ((p % 2 ^ j : Nat) : Int))) w := by
  subst hm
  have e : (BitVec.ofInt 64 (p : Int) &&& BitVec.ofInt 64 ((2 ^ j - 1 : Nat) : Int)).toNat = p % 2 ^ j := by
    rw [toNat_mask _ _ (by omega), ← Int.natCast_emod, Int.toNat_natCast]
  have h2 : p % 2 ^ j ≤ p := Nat.mod_le _ _
  have e3 : ∀ r : Nat, r ≤ p → IntKind.u64.wrap (r : Int) = r := fun r hr => wrap_u64 (by omega) (by omega)
  have h : Op.intBits .and .u64 (p : Int) ((2 ^ j - 1 : Nat) : Int) = pure (.int .u64 ((p % 2 ^ j : Nat) : Int)) := by
    have e4 : IntKind.u64.wrap (((BitVec.ofInt 64 (p : Int) &&& BitVec.ofInt 64 ((2 ^ j - 1 : Nat) : Int)).toNat : Nat) : Int) = ((p % 2 ^ j : Nat) : Int) := by rw [e]; exact e3 _ h2
    exact congrArg (fun z => pure (Value.int .u64 z)) e4
  simp only [execOp, ha.ev hx, ha.ev hy, binOp, h]
  simp [eqGuard]
theorem rx_sub (ha : Has n env a) (p q : Nat) (hx : ev env x = some (.int .u64 (p : Int))) (hy : ev env y = some (.int .u64 (q : Int))) (h : q ≤ p) (hp : p ≤ 18446744073709551615) :
    (execOp a.eval ⟨dst, .binOp .sub t x y t', ty, pos, af, g⟩).run P w = .ok (.value (.int .u64 ((p - q : Nat) : Int))) w := by
  have e : IntKind.u64.wrap ((p : Int) - (q : Int)) = ((p - q : Nat) : Int) := by rw [wrap_u64 (by omega) (by omega)]; omega
  simp [execOp, ha.ev hx, ha.ev hy, eqGuard, binOp, Op.intArith, e]
theorem ru_shrG (ha : Has n env a) (p : UInt64) {k : IntKind} (q : Nat) (hx : ev env x = some (e64 p)) (hy : ev env y = some (.int k q)) :
    (execOp a.eval ⟨dst, .binOp .shr t x y t', ty, pos, af, g⟩).run P w = .ok (.value (e64 (shrG p q))) w := by
  by_cases hq : q < 64
  · have e : shrG p q = p >>> UInt64.ofNat q := if_neg (by omega)
    rw [e]; exact ru_shr ha p q hx hy hq
  · have e0 : shrG p q = 0 := if_pos (by omega)
    have e : Int.fdiv (p.toNat : Int) (2 ^ 64) = 0 := by
      rw [Int.fdiv_eq_ediv_of_nonneg _ (by decide)]; have := lt64 p; omega
    have h : Op.shift .shr .u64 (p.toNat : Int) k (q : Int) = pure (e64 0) := by
      unfold Op.shift
      rw [if_neg (by omega)]
      simp only [Int.toNat_natCast, IntKind.bits, show min q 64 = 64 by omega, e]
      rfl
    rw [e0]
    simp only [execOp, ha.ev hx, ha.ev hy, binOp, h]
    simp [eqGuard]

/-! ### Slices of one-cell elements -/
/-- In w the slice value v reads as the cells C. -/
def Sl (w : World) (v : Value) (C : List Value) : Prop :=
  ∃ a cap, v = .slice a C.length cap ∧ C.length ≤ cap ∧ (∀ x, a = some x → x.spot = none ∧ x.block < w.heap.size ∧ ∀ j u, C[j]? = some u → w.cell? ⟨x.block, x.off + j, none⟩ = some u) ∧ (a = none → C = [] ∧ cap = 0)

def ptrOf (v : Value) (i : Nat) : Value :=
  match v with
  | .slice (some a) _ _ => .pointer (some ⟨a.block, a.off + i, none⟩)
  | _ => undef

theorem Sl.same {C : List Value} (h : Sl w v C) (hs : w.heap.size ≤ w'.heap.size) (hb : ∀ k, v.ownBlock = some k → w'.heap[k]? = w.heap[k]?) : Sl w' v C := by
  obtain ⟨a, cap, hv, hc, hx, hn⟩ := h
  refine ⟨a, cap, hv, hc, fun x e => ?_, hn⟩
  subst e
  obtain ⟨h1, h2, h3⟩ := hx x rfl
  have hk := hb x.block (by rw [hv]; rfl)
  refine ⟨h1, Nat.lt_of_lt_of_le h2 hs, fun j u hu => ?_⟩
  rw [World.cell?_of_block (w := w) (a := ⟨x.block, x.off + j, none⟩) hk]
  exact h3 j u hu

theorem Sl.lt {C : List Value} (h : Sl w v C) : ∀ k, v.ownBlock = some k → k < w.heap.size := by
  intro k hk
  obtain ⟨a, cap, hv, hc, hx, hn⟩ := h
  cases a with
  | none => rw [hv] at hk; simp [Value.ownBlock] at hk
  | some x => rw [hv] at hk; simp [Value.ownBlock] at hk; rw [← hk]; exact (hx x rfl).2.1

theorem Sl.below {C : List Value} (h : Sl w v C) (hb : Below w.heap.size w w') : Sl w' v C := h.same hb.size fun k hk => hb.block k (h.lt k hk)
theorem keepS0 {C : List Value} (hg : w.grownBy w' none) (h : Sl w v C) : Sl w' v C := h.same hg.size fun k hk => hg.block k (h.lt k hk) (by simp)
theorem keepS1 {C : List Value} {b : Nat} (hg : w.grownBy w' (some b)) (hne : v.ownBlock ≠ some b) (h : Sl w v C) : Sl w' v C :=
  h.same hg.size fun k hk => hg.block k (h.lt k hk) (by intro e; exact hne (by rw [hk, e]))

theorem Sl.nil (w : World) : Sl w (.slice none 0 0) [] := ⟨none, 0, rfl, Nat.le_refl _, fun x e => (by cases e), fun _ => ⟨rfl, rfl⟩⟩

/-- A slice over the head of a block. -/
theorem Sl.ofBlock {b t cap : Nat} {C D : List Value} {fr : Nat × Nat} (hb : w.heap[b]? = some (.cells D.toArray t fr)) (hc : D.take C.length = C) (hcap : C.length ≤ cap) : Sl w (.slice (some ⟨b, 0, none⟩) C.length cap) C :=
  ⟨_, cap, rfl, hcap, fun x e => (by cases e; exact ⟨rfl, lt_of_block hb, cells_of 0 hb (by simpa using hc)⟩), fun e => (by cases e)⟩

theorem Sl.ofBlockP {α : Type} {f : α → Value} {l m : List α} {b t cap k : Nat} {R : List Value} {fr : Nat × Nat} (hb : w.heap[b]? = some (.cells (l.map f ++ R).toArray t fr)) (hm : m.length = k) (hl : l.take k = m) (hcap : k ≤ cap) : Sl w (.slice (some ⟨b, 0, none⟩) k cap) (m.map f) := by
  subst hm
  have h1 : m.length ≤ l.length := by rw [← hl, List.length_take]; omega
  have := Sl.ofBlock (w := w) (cap := cap) (C := m.map f) hb (by rw [List.length_map, List.take_append_of_le_length (by simpa using h1), ← List.map_take, hl]) (by simpa using hcap)
  simpa using this
theorem Sl.ofBlockM {α : Type} {f : α → Value} {l : List α} {b t cap m : Nat} {fr : Nat × Nat} (hb : w.heap[b]? = some (.cells (l.map f).toArray t fr)) (hm : l.length = m) (hcap : m ≤ cap) : Sl w (.slice (some ⟨b, 0, none⟩) m cap) (l.map f) :=
  Sl.ofBlockP (R := []) (l := l) (by simpa using hb) hm (by rw [← hm]; exact List.take_length) hcap

theorem r_lenS (ha : Has n env a) {e : TypeId} {m : Nat} {C : List Value} (hT : ∀ w, (underlying t).run P w = .ok (.slice e) w) (hs : Sl w v C) (hx : ev env x = some v) (hm : C.length = m) :
    (execOp a.eval ⟨dst, .call ⟨.builtin .len, #[x], #[t]⟩, ty, pos, af, g⟩).run P w = .ok (.value (en m)) w := by
  obtain ⟨b, cap, hv, -⟩ := hs
  subst hm
  simp [execOp, resolve, ha.ev hx, invoke, builtin, Builtin.len_, hT, hv, goInt]
theorem r_lenB (ha : Has n env a) {e b m c : Nat} (hT : ∀ w, (underlying t).run P w = .ok (.slice e) w) (hx : ev env x = some (.slice (some ⟨b, 0, none⟩) m c)) :
    (execOp a.eval ⟨dst, .call ⟨.builtin .len, #[x], #[t]⟩, ty, pos, af, g⟩).run P w = .ok (.value (en m)) w := by
  simp [execOp, resolve, ha.ev hx, invoke, builtin, Builtin.len_, hT, goInt]

theorem r_indexS (ha : Has n env a) {e i : Nat} {C : List Value} (hT : ∀ w, (underlying t).run P w = .ok (.slice e) w) (hsz : ∀ w, (sizeOf e).run P w = .ok 1 w) (hs : Sl w v C) (hx : ev env x = some v) (hy : ev env y = some (en i)) (hi : i < C.length) :
    (execOp a.eval ⟨dst, .indexAddr t x y, ty, pos, af, g⟩).run P w = .ok (.value (ptrOf v i)) w := by
  obtain ⟨b, cap, hv, hc, hb, hn⟩ := hs
  cases b with
  | none => have := (hn rfl).1; rw [this] at hi; simp at hi
  | some q =>
    obtain ⟨h1, h2, h3⟩ := hb q rfl
    obtain ⟨qb, qo, qs⟩ := q
    simp only at h1
    subst h1
    have h4 : (0 : Int) ≤ (i : Int) ∧ (i : Int) < (C.length : Int) := ⟨by omega, by omega⟩
    simp [execOp, ha.ev hx, ha.ev hy, Instr.indexAt, asIntOf, hT, hsz, hv, h4, hi, ptrOf, add_zero']
theorem r_indexB (ha : Has n env a) {e b m c : Nat} (i : Nat) (hT : ∀ w, (underlying t).run P w = .ok (.slice e) w) (hsz : ∀ w, (sizeOf e).run P w = .ok 1 w) (hx : ev env x = some (.slice (some ⟨b, 0, none⟩) m c)) (hy : ev env y = some (en i)) (hi : i < m) :
    (execOp a.eval ⟨dst, .indexAddr t x y, ty, pos, af, g⟩).run P w = .ok (.value (.pointer (some ⟨b, i, none⟩))) w := by
  have h4 : (0 : Int) ≤ (i : Int) ∧ (i : Int) < (m : Int) := ⟨by omega, by omega⟩
  simp [execOp, ha.ev hx, ha.ev hy, Instr.indexAt, asIntOf, hT, hsz, h4, hi, add_zero']
theorem r_loadS (ha : Has n env a) {i : Nat} {C : List Value} {u : Value} (hx : ev env x = some (ptrOf v i)) (hagg : ∀ w, (isAgg t).run P w = .ok false w) (hs : Sl w v C) (hc : C[i]? = some u) :
    (execOp a.eval ⟨dst, .load t x, ty, pos, af, g⟩).run P w = .ok (.value u) w := by
  obtain ⟨b, cap, hv, hcap, hb, hn⟩ := hs
  cases b with
  | none => have := (hn rfl).1; rw [this] at hc; simp at hc
  | some q =>
    obtain ⟨h1, h2, h3⟩ := hb q rfl
    have hp : ptrOf v i = .pointer (some ⟨q.block, q.off + i, none⟩) := by rw [hv]; rfl
    rw [hp] at hx
    exact r_load ha hx hagg (h3 i u hc)
end
end Go.Rx

/- The operations of the calculus: make, literals, copy, append, parts of slices, strings. -/
namespace Go.Rx
open Go.RowKit

section
variable {P : Program} {n : Nat} {env : Env} {a : Act} {w w' : World} {dst : Option Tmp} {ty : TypeId} {pos : String} {af : Array Edge} {g : Option (Nat × Bool)} {x y z : Operand} {t t' : TypeId} {v u : Value}
variable {ops : Array Oper} {Q : Exit → Act → World → Prop} {rest : List Oper} {d : Nat} {S : World → Prop} {m i : Nat} {st r : List Nat}

theorem made_one (z : Value) (k : Nat) (hz : z.cells = #[z]) : madeCells z.cells k = ((List.replicate k z)).toArray := by
  rw [hz]; unfold madeCells
  apply Array.ext
  · simp
  · intro i h1 h2; simp [Nat.mod_one]

/-- make([]T, k) of one-cell elements. -/
theorem smake (ha : Has n env a) {e k : Nat} {ti : TypeInfo} {z : Value} (hx : ev env x = some (en k)) (hy : ev env y = some (en k)) (ht : P.underlying t = some (.slice e)) (hi : P.info? e = some ti) (hz : ti.zero = some z) (hsz : ti.size = 1) (hzc : z.cells = #[z]) (hk : ti.bytes * k ≤ 281474976710656) (hk2 : k ≤ 9223372036854775807) (hn : Nat.blt d n = true)
    (K : ∀ a' w' b, Has n ((d, .slice (some ⟨b, 0, none⟩) k k) :: env) a' → w.grownBy w' none → w'.heap[b]? = some (.cells (List.replicate k z).toArray e (0, 0)) → w.heap.size ≤ b → b < w'.heap.size → wpList P ops Q rest a' w') :
    wpList P ops Q (⟨some d, .makeSlice t x y, ty, pos, af, none⟩ :: rest) a w := by
  have hr := run_make (P := P) w t e ti z ht hi hz .i64 .i64 k k (by omega) (Int.le_refl _) (by rw [← Int.natCast_mul]; omega) (by omega)
  rw [hsz, Nat.mul_one, Int.toNat_natCast, made_one z k hzc] at hr
  have hrun : (execOp a.eval ⟨some d, .makeSlice t x y, ty, pos, af, none⟩).run P w = .ok (.value (.slice (some ⟨w.heap.size, 0, none⟩) k k)) (w.alloc (.cells (List.replicate k z).toArray e)) := by
    simp only [execOp, ha.ev hx, ha.ev hy, Sem.run_bind, hr, Result.andThen_ok]; rfl
  exact sv ha hrun rfl rfl hn fun _ ha' => K _ _ _ ha' (grown_alloc w _) (heap_alloc_new w _) (Nat.le_refl _) (by simp)

/-- A literal of a slice, all elements given, one cell each. -/
theorem run_buildSlice {e k : Nat} {parts : Array (Nat × Value)} {C : List Value} (hT : ∀ w, (underlying t).run P w = .ok (.slice e) w) (hsz : ∀ w, (sizeOf e).run P w = .ok 1 w) {z : Value} (hz : ∀ w, (zeroValue e).run P w = .ok z w) (hzc : z.cells = #[z]) (hk0 : 0 < k) (hk : k ≤ 16777216)
    (hf : Instr.fill (fun i => some (i * 1, 1)) (List.replicate k z).toArray parts.toList = some C.toArray) :
    (Instr.buildSlice t k parts).run P w = .ok (.slice (some ⟨w.heap.size, 0, none⟩) k k) (w.alloc (.cells C.toArray e)) := by
  have hm : (Array.range (k * 1)).map (z.cells[· % z.cells.size]!) = (List.replicate k z).toArray := by
    have := made_one z k hzc; unfold madeCells at this; rw [Nat.mul_one]; exact this
  have h0 : ¬ k * 1 = 0 := by omega
  have hk' : ¬ (2 ^ 24 < k) := by omega
  · simp only [Instr.buildSlice, Sem.run_bind, hT, hsz, Result.andThen_ok]
    simp only [Nat.mul_one] at hm h0
    simp [hk', h0, hz, hm, newRow, newObj]
    have hf' : Instr.fill (fun i => some (i, 1)) (List.replicate k z).toArray parts.toList = some C.toArray := by simpa using hf
    simp at hf'
    simp [hf']
    rfl

def evp (env : Env) : List (Nat × Operand) → Option (List (Nat × Value))
  | [] => some []
  | (i, x) :: r => match ev env x, evp env r with
    | some v, some l => some ((i, v) :: l)
    | _, _ => none
theorem Has.evp (ha : Has n env a) : ∀ (l : List (Nat × Operand)) (vs : List (Nat × Value)), Rx.evp env l = some vs → l.map (fun p => (p.1, a.eval p.2)) = vs
  | [], vs, h => by simp [Rx.evp] at h; subst h; rfl
  | (i, x) :: r, vs, h => by
    simp only [Rx.evp] at h
    split at h
    · rename_i v l hv hl
      simp only [Option.some.injEq] at h
      subst h
      rw [List.map_cons, ha.ev hv, Has.evp ha r l hl]
    · cases h

theorem sbuildS (ha : Has n env a) {e k : Nat} {parts : List (Nat × Operand)} (vs : List (Nat × Value)) (C : List Value) (hp : evp env parts = some vs) (hT : ∀ w, (underlying t).run P w = .ok (.slice e) w) (hsz : ∀ w, (sizeOf e).run P w = .ok 1 w) {z : Value} (hz : ∀ w, (zeroValue e).run P w = .ok z w) (hzc : z.cells = #[z]) (hk0 : Nat.blt 0 k = true) (hk : Nat.ble k 16777216 = true)
    (hf : Instr.fill (fun i => some (i * 1, 1)) (List.replicate k z).toArray vs = some C.toArray) (hn : Nat.blt d n = true)
    (K : ∀ a' w' b, Has n ((d, .slice (some ⟨b, 0, none⟩) k k) :: env) a' → w.grownBy w' none → w'.heap[b]? = some (.cells C.toArray e (0, 0)) → w.heap.size ≤ b → b < w'.heap.size → wpList P ops Q rest a' w') :
    wpList P ops Q (⟨some d, .buildSlice t k parts.toArray, ty, pos, af, none⟩ :: rest) a w := by
  have h := ha.evp parts vs hp
  have hr := run_buildSlice (P := P) (w := w) (parts := vs.toArray) (C := C) hT hsz hz hzc (by simpa [Nat.blt_eq] using hk0) (by simpa [Nat.ble_eq] using hk) (by simpa using hf)
  have hrun : (execOp a.eval ⟨some d, .buildSlice t k parts.toArray, ty, pos, af, none⟩).run P w = .ok (.value (.slice (some ⟨w.heap.size, 0, none⟩) k k)) (w.alloc (.cells C.toArray e)) := by
    have hm : (parts.toArray.map fun p => (p.1, a.eval p.2)) = vs.toArray := by rw [List.map_toArray, h]
    simp only [execOp, hm, Sem.run_bind, hr, Result.andThen_ok]; rfl
  exact sv ha hrun rfl rfl hn fun _ ha' => K _ _ _ ha' (grown_alloc w _) (heap_alloc_new w _) (Nat.le_refl _) (by simp)

/-- An array literal without a part: noughts. -/
theorem r_build0 {C : List Value} {len e : Nat} (hz : ∀ w, (zeroValue t).run P w = .ok (.agg C.toArray) w) (hT : ∀ w, (underlying t).run P w = .ok (.array len e) w) {sz : Nat} (hsz : ∀ w, (sizeOf e).run P w = .ok sz w) :
    (execOp a.eval ⟨dst, .build t #[], ty, pos, af, g⟩).run P w = .ok (.value (.agg C.toArray)) w := by
  simp [execOp, Instr.build, hz, hT, hsz, Instr.fill, Value.cells]

/-- copy of a slice over a block of one's own. -/
theorem scopy (ha : Has n env a) {e b k c bt o : Nat} {D C : List Value} {p : List Value} (hx : ev env x = some (.slice (some ⟨b, o, none⟩) k c)) (hy : ev env y = some v) (hs : Sl w v C) (ht : P.underlying t = some (.slice e)) (hsz : (P.info? e).map (·.size) = some 1)
    (hb : w.heap[b]? = some (.cells D.toArray bt (0, 0))) (hp : C.take k = p) (hfit : o + p.length ≤ D.length) (h1 : ∀ u ∈ C, u.oneCell' = true)
    (K : ∀ a' w', Has n env a' → w.grownBy w' (some b) → w'.heap[b]? = some (.cells (D.take o ++ p ++ D.drop (o + p.length)).toArray bt (0, 0)) → wpList P ops Q rest a' w') {dst : Option Nat} (hd : dst = some d) (hn : Nat.blt d n = true) (hfresh : look env d = none) :
    wpList P ops Q (⟨dst, .call ⟨.builtin .copy, #[x, y], #[t, t']⟩, ty, pos, af, none⟩ :: rest) a w := by
  subst hp
  obtain ⟨sa, cap, hv, hc, hx', hnil⟩ := hs
  have weaken : ∀ (v0 : Value) a', Has n ((d, v0) :: env) a' → Has n env a' := fun v0 a' h => ⟨h.defers, h.size, fun t u hu => h.has t u (by
    simp only [look]
    by_cases e : d = t
    · subst e; rw [hfresh] at hu; cases hu
    · rw [beq_no e]; exact hu)⟩
  by_cases h0 : (C.take k).length = 0
  · have hnil' : C.take k = [] := List.eq_nil_of_length_eq_zero h0
    have hmin : Nat.min C.length k = 0 := by rw [List.length_take] at h0; show min C.length k = 0; omega
    have hr := run_copy_none (P := P) w t t' ty e (some ⟨b, o, none⟩) sa k c C.length cap ht hsz hmin
    have hrun : (execOp a.eval ⟨dst, .call ⟨.builtin .copy, #[x, y], #[t, t']⟩, ty, pos, af, none⟩).run P w = .ok (.value (goInt 0)) w := by
      simp [execOp, resolve, ha.ev hx, ha.ev hy, hv, invoke, builtin, hr]
    refine sv ha hrun rfl hd hn fun a' ha' => K a' w (weaken _ _ ha') ⟨rfl, rfl, rfl, Nat.le_refl _, fun _ _ _ => rfl⟩ ?_
    simpa [hnil'] using hb
  · have hsome : ∃ q, sa = some q := by
      cases sa with
      | none => have := (hnil rfl).1; rw [this] at h0; simp at h0
      | some q => exact ⟨q, rfl⟩
    obtain ⟨q, rfl⟩ := hsome
    obtain ⟨h2, h3, h4⟩ := hx' q rfl
    have hq : q = ⟨q.block, q.off, none⟩ := by cases q; simp only at h2; subst h2; rfl
    have hr := run_copy_row (P := P) w t t' ty e b o k c q C.length cap D.toArray bt (C.take k) ht hsz hb (by rw [List.length_take]; show min k C.length = min C.length k; omega) (fun j u hu => by
      rw [hq, add_zero']
      rw [List.getElem?_take] at hu
      split at hu
      · exact h4 j u hu
      · cases hu) (by simpa using hfit) (fun u hu => h1 u (List.mem_of_mem_take hu))
    have hrun : (execOp a.eval ⟨dst, .call ⟨.builtin .copy, #[x, y], #[t, t']⟩, ty, pos, af, none⟩).run P w = .ok (.value (goInt (C.take k).length)) (w.setRow b (D.take o ++ C.take k ++ D.drop (o + (C.take k).length)).toArray) := by
      simp only [execOp, resolve, ha.ev hx, ha.ev hy, hv, invoke, builtin, Sem.run_bind, Sem.run_pure, Result.andThen_ok, List.map_toArray, List.map_cons, List.map_nil, hr]
    exact sv ha hrun rfl hd hn fun a' ha' => K a' _ (weaken _ _ ha') (grown_setRow w b _) (setRow_new hb)
end

section
variable {P : Program} {n : Nat} {env : Env} {a : Act} {w0 w w' : World} {dst : Option Tmp} {ty : TypeId} {pos : String} {af : Array Edge} {g : Option (Nat × Bool)} {x y z : Operand} {t t' : TypeId} {v u : Value}

theorem copy_all {α : Type} {f : α → Value} {D : List Value} {l : List α} {k : Nat} (hD : D.length = k) (hl : l.length = k) : D.take 0 ++ (l.take k).map f ++ D.drop (0 + ((l.take k).map f).length) = l.map f := by
  subst hl; simp [hD]
theorem copy_map {α : Type} {f : α → Value} {D l : List α} : (D.map f).take 0 ++ l.map f ++ (D.map f).drop (0 + (l.map f).length) = (l ++ D.drop l.length).map f := by
  simp

/- Where a call may write into one block that was there: the running fact is 'w0.grownBy w (some m)'. -/
theorem keepM0 {m : Nat} (hg : w.grownBy w' none) (h : w0.grownBy w (some m)) : w0.grownBy w' (some m) :=
  ⟨hg.os.trans h.os, hg.tape.trans h.tape, hg.output.trans h.output, Nat.le_trans h.size hg.size, fun k hk hne => (hg.block k (Nat.lt_of_lt_of_le hk h.size) (by simp)).trans (h.block k hk hne)⟩
theorem keepM1 {m b : Nat} (hg : w.grownBy w' (some b)) (hb : b = m ∨ w0.heap.size ≤ b) (h : w0.grownBy w (some m)) : w0.grownBy w' (some m) :=
  ⟨hg.os.trans h.os, hg.tape.trans h.tape, hg.output.trans h.output, Nat.le_trans h.size hg.size, fun k hk hne => (hg.block k (Nat.lt_of_lt_of_le hk h.size) (by
    intro e
    rcases hb with rfl | hb
    · exact hne e
    · cases e; omega)).trans (h.block k hk hne)⟩
theorem grown_refl (w : World) (row : Option Nat) : w.grownBy w row := ⟨rfl, rfl, rfl, Nat.le_refl _, fun _ _ _ => rfl⟩
end

/-! ### append -/
section
variable {P : Program} {n : Nat} {env : Env} {a : Act} {w0 w w' : World} {dst : Option Tmp} {ty : TypeId} {pos : String} {af : Array Edge} {g : Option (Nat × Bool)} {x y z : Operand} {t t' : TypeId} {v u : Value}
variable {ops : Array Oper} {Q : Exit → Act → World → Prop} {rest : List Oper} {d : Nat} {S : World → Prop} {m i : Nat} {st r : List Nat}

theorem zc_one {z : Value} {k : Nat} (hz : z.cells = #[z]) : Builtin.zeroCells z.cells k = (List.replicate k z).toArray := by
  rw [hz]; unfold Builtin.zeroCells
  apply Array.ext
  · simp
  · intro i h1 h2; simp [Nat.mod_one]

/-- What an append yields, of one-cell elements: the destination nil, or the head of a block of one's own; the source told by 'Sl'. -/
theorem run_app {e : Nat} {ti : TypeInfo} {zv : Value} {base k : Nat} {C D : List Value} (ht : P.underlying t = some (.slice e)) (hi : P.info? e = some ti) (hz : ti.zero = some zv) (hsz : ti.size = 1) (hzc : zv.cells = #[zv])
    (hown : w.ownsRow base e 1 v k C) (hs : Sl w u D) (h1 : ∀ q ∈ D, q.oneCell' = true) (hbd : (k + D.length) * ti.bytes ≤ 140737488355328) (hbd2 : k + D.length ≤ 140737488355328) (hbase : base ≤ w.heap.size) :
    ∃ v' w', (Builtin.append_ #[t, t] ty #[v, u]).run P w = .ok v' w' ∧ w'.ownsRow base e 1 v' (k + D.length) (C ++ D) ∧ w.grownBy w' v.ownBlock ∧ (v' = .slice none 0 0 → k + D.length = 0) ∧ (∀ j, v'.ownBlock = some j → v.ownBlock = some j ∨ w.heap.size ≤ j) := by
  obtain ⟨sa, cap, hu, hc, hx, hnil⟩ := hs
  cases sa with
  | none =>
    obtain ⟨hD, hcap⟩ := hnil rfl
    subst hD; subst hcap
    have hr := run_append_owned_none (P := P) (w := w) base t ty e ti 1 ht hi v k C hown
    refine ⟨v, w, by rw [hu]; exact hr, by simpa using hown, ⟨rfl, rfl, rfl, Nat.le_refl _, fun _ _ _ => rfl⟩, fun e => ?_, fun j hj => .inl hj⟩
    rcases hown.2 with ⟨_, rfl⟩ | ⟨g, c, cur, hv, _⟩
    · rfl
    · rw [hv] at e; cases e
  | some q =>
    obtain ⟨q1, q2, q3⟩ := hx q rfl
    have hq : q = ⟨q.block, q.off, none⟩ := by cases q; simp only at q1; subst q1; rfl
    have hnews : ∀ j p, D[j]? = some p → w.cell? (q.add j) = some p := fun j p hp => by rw [hq, add_zero']; exact q3 j p hp
    have hl : D.length = D.length * ti.size := by rw [hsz, Nat.mul_one]
    have hmx : k + D.length ≤ maxLen := by unfold maxLen; omega
    rcases hown.2 with ⟨hv, hk⟩ | ⟨g, c, cur, hv, hbg, hg, hkc, hcm, hcs, htake⟩
    · subst hv; subst hk
      have hC : C = [] := List.eq_nil_of_length_eq_zero (by simpa using hown.1)
      subst hC
      by_cases h0 : D.length = 0
      · have hD : D = [] := List.eq_nil_of_length_eq_zero h0
        subst hD
        obtain ⟨v', w', hr, ho, hg, hn⟩ := run_append_own (P := P) w base t ty e ti zv 1 ti.bytes ht hi hz hsz rfl (by rw [hzc]; rfl) (by omega) _ _ _ hown q 0 cap [] (by simp) (fun j p hp => by simp at hp) (fun p hp => by simp at hp) (by simp [maxLen]) (by simp) hbase
        have hv' : v' = .slice none 0 0 := hn.2 ⟨rfl, rfl⟩
        refine ⟨v', w', by rw [hu]; exact hr, ho, hg, fun _ => by simp, fun j hj => ?_⟩
        rw [hv'] at hj; simp [Value.ownBlock] at hj
      · have hr := run_append_nil (P := P) w t ty e ti zv ht hi hz q D.length cap D hl hnews (by omega) (by omega) (by have := hbd; simp only [Nat.zero_add] at this; omega)
        have hcl : grownCap w D.length 0 e ≤ maxLen := grownCap_le_maxLen w _ _ e (by simpa using hmx)
        have hcg := grownCap_ge w D.length 0 e
        refine ⟨_, _, by rw [hu]; exact hr, ⟨by simp, .inr ⟨w.heap.size, _, _, by simp, hbase, heap_alloc_new w.drew _, by simpa using hcg, hcl, ?_, ?_⟩⟩, ⟨rfl, rfl, rfl, by simp, fun j hj _ => heap_alloc_old w.drew _ hj⟩, fun e => (by cases e), fun j hj => ?_⟩
        · rw [zc_one hzc]; simp; omega
        · simp
        · simp [Value.ownBlock] at hj; exact .inr (by omega)
    · subst hv
      by_cases hroom : k + D.length ≤ c
      · have hr := run_append_room (P := P) w t ty e ti ht hi g k c cur hg q D.length cap D hl hnews h1 hroom (by rw [hsz, Nat.mul_one]; omega)
        rw [hsz, Nat.mul_one] at hr
        refine ⟨_, _, by rw [hu]; exact hr, ⟨by simp [hown.1], .inr ⟨g, c, _, rfl, hbg, setRow_heap w g cur _ e _ hg, hroom, hcm, ?_, ?_⟩⟩, ⟨rfl, rfl, rfl, by simp, fun j _ hj => setRow_other w g j _ (fun e => hj (by simp [Value.ownBlock, e]))⟩, fun e => (by cases e), fun j hj => Or.inl hj⟩
        · simp; omega
        · have hkl : C.length = k := by have := hown.1; omega
          rw [Nat.mul_one] at htake
          simp only [Nat.mul_one, htake]
          rw [← hkl, ← List.length_append]
          exact List.take_left
      · have hr := run_append_grow (P := P) w t ty e ti zv ht hi hz ⟨g, 0, none⟩ k c C (by rw [hsz]; exact hown.1) (hown.cells (g := g) rfl) q D.length cap D hl hnews (by omega) (by omega) (growslice_fits (by omega) hbd)
        have hcl : grownCap w (k + D.length) c e ≤ maxLen := grownCap_le_maxLen w _ _ e hmx
        have hcg := grownCap_ge w (k + D.length) c e
        have hkl : C.length = k := by have := hown.1; omega
        refine ⟨_, _, by rw [hu]; exact hr, ⟨by simp [hown.1], .inr ⟨w.heap.size, _, _, rfl, hbase, heap_alloc_new w.drew _, hcg, hcl, ?_, ?_⟩⟩, ⟨rfl, rfl, rfl, by simp, fun j hj _ => heap_alloc_old w.drew _ hj⟩, fun e => (by cases e), fun j hj => ?_⟩
        · rw [zc_one hzc]; simp [hkl]; omega
        · simp only [Array.toList_append, Nat.mul_one, List.append_assoc]
          rw [← List.append_assoc, ← hkl, ← List.length_append]
          exact List.take_left
        · simp [Value.ownBlock] at hj; exact .inr (by omega)

theorem r_app (ha : Has n env a) {e : Nat} {ti : TypeInfo} {zv : Value} {base k : Nat} {C D : List Value} (hx : ev env x = some v) (hy : ev env y = some u) (ht : P.underlying t = some (.slice e)) (hi : P.info? e = some ti) (hz : ti.zero = some zv) (hsz : ti.size = 1) (hzc : zv.cells = #[zv])
    (hown : w.ownsRow base e 1 v k C) (hs : Sl w u D) (h1 : ∀ q ∈ D, q.oneCell' = true) (hbd : (k + D.length) * ti.bytes ≤ 140737488355328) (hbd2 : k + D.length ≤ 140737488355328) (hbase : base ≤ w.heap.size) :
    ∃ v' w', (execOp a.eval ⟨dst, .call ⟨.builtin .append, #[x, y], #[t, t]⟩, ty, pos, af, g⟩).run P w = .ok (.value v') w' ∧ w'.ownsRow base e 1 v' (k + D.length) (C ++ D) ∧ w.grownBy w' v.ownBlock ∧ (v' = .slice none 0 0 → k + D.length = 0) ∧ (∀ j, v'.ownBlock = some j → v.ownBlock = some j ∨ w.heap.size ≤ j) := by
  obtain ⟨v', w', hr, rest⟩ := run_app (P := P) (w := w) (ty := ty) ht hi hz hsz hzc hown hs h1 hbd hbd2 hbase
  refine ⟨v', w', ?_, rest⟩
  simp only [execOp, resolve, ha.ev hx, ha.ev hy, invoke, builtin, Sem.run_bind, Sem.run_pure, Result.andThen_ok, List.map_toArray, List.map_cons, List.map_nil, hr]

/-- append, in the walk: the destination owned. -/
theorem sapp (ha : Has n env a) {e : Nat} {ti : TypeInfo} {zv : Value} {base k : Nat} {C D : List Value} (hx : ev env x = some v) (hy : ev env y = some u) (ht : P.underlying t = some (.slice e)) (hi : P.info? e = some ti) (hz : ti.zero = some zv) (hsz : ti.size = 1) (hzc : zv.cells = #[zv])
    (hown : w.ownsRow base e 1 v k C) (hs : Sl w u D) (h1 : ∀ q ∈ D, q.oneCell' = true) (hbd : (k + D.length) * ti.bytes ≤ 140737488355328) (hbd2 : k + D.length ≤ 140737488355328) (hbase : base ≤ w.heap.size) (hn : Nat.blt d n = true)
    (K : ∀ a' w' v', Has n ((d, v') :: env) a' → w.grownBy w' v.ownBlock → w'.ownsRow base e 1 v' (k + D.length) (C ++ D) → (v' = .slice none 0 0 → k + D.length = 0) → (∀ j, v'.ownBlock = some j → v.ownBlock = some j ∨ w.heap.size ≤ j) → wpList P ops Q rest a' w') :
    wpList P ops Q (⟨some d, .call ⟨.builtin .append, #[x, y], #[t, t]⟩, ty, pos, af, none⟩ :: rest) a w := by
  obtain ⟨v', w', hr, ho, hg, hnl, hj⟩ := r_app (P := P) (w := w) (ty := ty) (pos := pos) (af := af) (dst := some d) (g := none) ha hx hy ht hi hz hsz hzc hown hs h1 hbd hbd2 hbase
  exact sv ha hr rfl rfl hn fun a' ha' => K a' w' v' ha' hg ho hnl hj

/-- An owned slice that is not empty is the head of a block. -/
theorem own_block {base e k : Nat} {C : List Value} (h : w.ownsRow base e 1 v k C) (hk : 0 < k) :
    ∃ b cap R, v = .slice (some ⟨b, 0, none⟩) k cap ∧ w.heap[b]? = some (.cells (C ++ R).toArray e (0, 0)) ∧ base ≤ b ∧ C.length = k ∧ (C ++ R).length = cap ∧ cap ≤ maxLen := by
  rcases h.2 with ⟨_, rfl⟩ | ⟨g, c, cur, hv, hbg, hg, hkc, hcm, hcs, htake⟩
  · omega
  · have hCk : C.length = k := by have := h.1; omega
    refine ⟨g, c, cur.toList.drop k, hv, ?_, hbg, hCk, ?_, hcm⟩
    · have : (C ++ cur.toList.drop k) = cur.toList := by rw [← htake, Nat.mul_one]; exact List.take_append_drop _ _
      rw [this]; simpa using hg
    · have : (C ++ cur.toList.drop k) = cur.toList := by rw [← htake, Nat.mul_one]; exact List.take_append_drop _ _
      rw [this]; simp; omega
theorem own_of_block {base e k cap b : Nat} {C R : List Value} (hb : w.heap[b]? = some (.cells (C ++ R).toArray e (0, 0))) (hk : C.length = k) (hbase : base ≤ b) (hcap : (C ++ R).length = cap) (hm : cap ≤ maxLen) :
    w.ownsRow base e 1 (.slice (some ⟨b, 0, none⟩) k cap) k C := by
  refine ⟨by omega, .inr ⟨b, cap, (C ++ R).toArray, rfl, hbase, hb, ?_, hm, by simpa using hcap, ?_⟩⟩
  · rw [List.length_append] at hcap; omega
  · subst hk; simp
theorem Sl.ofOwns {base e k : Nat} {C : List Value} (h : w.ownsRow base e 1 v k C) : Sl w v C := by
  have hCk : C.length = k := by have := h.1; omega
  rcases h.2 with ⟨hv, hk⟩ | ⟨g, c, cur, hv, hbg, hg, hkc, hcm, hcs, htake⟩
  · have : C = [] := List.eq_nil_of_length_eq_zero (by omega)
    subst this; rw [hv]; exact Sl.nil w
  · subst hv; subst hCk
    exact Sl.ofBlock (D := cur.toList) (fr := (0, 0)) (t := e) (by simpa using hg) (by simpa using htake) hkc
/- carrying an owned slice on -/
theorem keepW0 {base e k : Nat} {C : List Value} (hg : w.grownBy w' none) (h : w.ownsRow base e 1 v k C) : w'.ownsRow base e 1 v k C := h.kept hg (by cases v.ownBlock <;> simp)
theorem keepW1 {base e k b : Nat} {C : List Value} (hg : w.grownBy w' (some b)) (hne : v.ownBlock ≠ some b) (h : w.ownsRow base e 1 v k C) : w'.ownsRow base e 1 v k C := h.kept hg (.inr hne)
/- where the block that was written is an owned slice's -/
theorem keepBR {row : Option Nat} (hg : w.grownBy w' row) (hr : ∀ j, row = some j → w0.heap.size ≤ j) (h : Below w0.heap.size w0 w) : Below w0.heap.size w0 w' := h.grown hg h.size hr
theorem keepOR {row : Option Nat} {c : Nat} {o : Obj} (hg : w.grownBy w' row) (hne : row ≠ some c) (h : w.heap[c]? = some o) : w'.heap[c]? = some o := by
  rw [hg.block c (Array.getElem?_eq_some_iff.1 h).1 (fun e => hne e.symm)]; exact h
theorem keepSR {row : Option Nat} {C : List Value} (hg : w.grownBy w' row) (hne : ∀ j, row = some j → v.ownBlock ≠ some j) (h : Sl w v C) : Sl w' v C :=
  h.same hg.size fun k hk => hg.block k (h.lt k hk) (by intro e; exact hne k e.symm hk)
theorem keepWR {row : Option Nat} {base e k : Nat} {C : List Value} (hg : w.grownBy w' row) (hne : ∀ j, row = some j → v.ownBlock ≠ some j) (h : w.ownsRow base e 1 v k C) : w'.ownsRow base e 1 v k C :=
  h.kept hg (by
    cases hv : v.ownBlock with
    | none => exact .inl rfl
    | some k => exact .inr (fun e => hne k e.symm hv))
end

/-! ### Parts of slices -/
def rsl (v : Value) (lo hi : Nat) : Value :=
  match v with
  | .slice a _ cap => .slice (if cap = lo then a else a.map (·.add lo)) (hi - lo) (cap - lo)
  | x => x
def optn (env : Env) (o : Option Operand) (dflt k : Nat) : Prop :=
  match o with
  | none => k = dflt
  | some x => ev env x = some (en k)

section
variable {P : Program} {n : Nat} {env : Env} {a : Act} {w0 w w' : World} {dst : Option Tmp} {ty : TypeId} {pos : String} {af : Array Edge} {g : Option (Nat × Bool)} {x y z : Operand} {t t' : TypeId} {v u : Value}

theorem run_bounds (ha : Has n env a) {ol oh : Option Operand} {len cap lo hi : Nat} (hlo : optn env ol 0 lo) (hhi : optn env oh len hi) (h1 : lo ≤ hi) (h2 : hi ≤ cap) :
    (Instr.sliceBounds true len cap (ol.map a.eval) (oh.map a.eval) none).run P w = .ok (lo, hi, cap) w := by
  cases ol with
  | none =>
    simp only [optn] at hlo; subst hlo
    cases oh with
    | none => simp only [optn] at hhi; subst hhi; simp [Instr.sliceBounds]
    | some q =>
      simp only [optn] at hhi
      have e : (0 : Int) ≤ (hi : Int) ∧ (hi : Int) ≤ (cap : Int) := ⟨by omega, by omega⟩
      simp [Instr.sliceBounds, ha.ev hhi, Instr.sliceBound, asIntOf, h2]
  | some p =>
    simp only [optn] at hlo
    cases oh with
    | none =>
      simp only [optn] at hhi; subst hhi
      simp [Instr.sliceBounds, ha.ev hlo, Instr.sliceBound, asIntOf, h1]
    | some q =>
      simp only [optn] at hhi
      simp [Instr.sliceBounds, ha.ev hlo, ha.ev hhi, Instr.sliceBound, asIntOf, h1, h2]
theorem r_resl (ha : Has n env a) {ol oh : Option Operand} {e : Nat} {C : List Value} (lo hi : Nat) (hT : ∀ w, (underlying t).run P w = .ok (.slice e) w) (hsz : ∀ w, (sizeOf e).run P w = .ok 1 w) (hs : Sl w v C) (hx : ev env x = some v) (hlo : optn env ol 0 lo) (hhi : optn env oh C.length hi) (h1 : lo ≤ hi) (h2 : hi ≤ C.length) :
    (execOp a.eval ⟨dst, .slice t x ol oh none, ty, pos, af, g⟩).run P w = .ok (.value (rsl v lo hi)) w := by
  obtain ⟨b, cap, hv, hc, -⟩ := hs
  have hb := run_bounds (P := P) (w := w) (len := C.length) (cap := cap) ha hlo hhi h1 (by omega)
  simp only [execOp, ha.ev hx, hv, Instr.sliceAt, Instr.slice, hT, hsz, Sem.run_bind, Result.andThen_ok, hb, Nat.mul_one, Option.map_none, rsl]
  simp
theorem r_reslB (ha : Has n env a) {oh : Option Operand} {e b k cap : Nat} (hi : Nat) (hT : ∀ w, (underlying t).run P w = .ok (.slice e) w) (hsz : ∀ w, (sizeOf e).run P w = .ok 1 w) (hx : ev env x = some (.slice (some ⟨b, 0, none⟩) k cap)) (hhi : optn env oh k hi) (h2 : hi ≤ cap) :
    (execOp a.eval ⟨dst, .slice t x none oh none, ty, pos, af, g⟩).run P w = .ok (.value (.slice (some ⟨b, 0, none⟩) hi cap)) w := by
  have hb := run_bounds (P := P) (w := w) (len := k) (cap := cap) (ol := none) (lo := 0) ha rfl hhi (by omega) h2
  simp only [Option.map_none] at hb
  simp only [execOp, ha.ev hx, Instr.sliceAt, Instr.slice, hT, hsz, Sem.run_bind, Result.andThen_ok, hb, Nat.mul_one, Option.map_none]
  simp [add_zero']

theorem Sl.cut {C : List Value} (h : Sl w v C) {lo hi : Nat} (h1 : lo ≤ hi) (h2 : hi ≤ C.length) : Sl w (rsl v lo hi) ((C.drop lo).take (hi - lo)) := by
  obtain ⟨b, cap, hv, hc, hx, hn⟩ := h
  have hlen : ((C.drop lo).take (hi - lo)).length = hi - lo := by simp; omega
  subst hv
  refine ⟨_, cap - lo, by rw [hlen]; rfl, by omega, fun q hq => ?_, fun e => ?_⟩
  · by_cases hcl : cap = lo
    · rw [if_pos hcl] at hq
      obtain ⟨q1, q2, q3⟩ := hx q hq
      refine ⟨q1, q2, fun j u hu => ?_⟩
      have : hi - lo = 0 := by omega
      rw [this] at hu; simp at hu
    · rw [if_neg hcl] at hq
      cases b with
      | none => simp at hq
      | some p =>
        obtain ⟨q1, q2, q3⟩ := hx p rfl
        simp only [Option.map_some, Option.some.injEq] at hq
        have hp : p = ⟨p.block, p.off, none⟩ := by cases p; simp only at q1; subst q1; rfl
        rw [hp, add_zero'] at hq
        subst hq
        refine ⟨rfl, q2, fun j u hu => ?_⟩
        rw [List.getElem?_take] at hu
        split at hu
        · rw [List.getElem?_drop] at hu
          have := q3 (lo + j) u hu
          simpa [Nat.add_assoc] using this
        · cases hu
  · cases b with
    | none => obtain ⟨hC, hcap⟩ := hn rfl; subst hC; simp [hcap]
    | some p => split at e <;> simp at e
theorem Sl.cutM {α : Type} {f : α → Value} {l : List α} (h : Sl w v (l.map f)) {lo hi : Nat} (h1 : lo ≤ hi) (h2 : hi ≤ l.length) : Sl w (rsl v lo hi) (((l.drop lo).take (hi - lo)).map f) := by
  have := h.cut h1 (by simpa using h2)
  rwa [← List.map_drop, ← List.map_take] at this
theorem own_rsl (lo hi : Nat) : ∀ j, (rsl v lo hi).ownBlock = some j → v.ownBlock = some j := by
  intro j hj
  unfold rsl at hj
  cases v <;> try exact hj
  rename_i b k cap
  simp only at hj
  split at hj
  · cases b with
    | none => simp [Value.ownBlock] at hj
    | some p => simpa [Value.ownBlock] using hj
  · cases b with
    | none => simp [Value.ownBlock] at hj
    | some p => simp [Value.ownBlock, Addr.add] at hj ⊢; split at hj <;> simpa using hj
end
end Go.Rx

/- More operations: array literals with parts, comparison of truths. -/
namespace Go.Rx
open Go.RowKit Go.Instr

/-- What a package-level variable's block holds. -/
def GlobAt (w : World) (g : Nat) (C : List Value) : Prop := ∃ t f, w.heap[g]? = some (.cells C.toArray t f)
theorem cell_glob {w : World} {g o : Nat} {C : List Value} {v : Value} (h : GlobAt w g C) (hc : C[o]? = some v) : w.cell? ⟨g, o, none⟩ = some v := by
  obtain ⟨t, f, h⟩ := h; exact cell_of h hc
theorem GlobAt.keep {w0 w : World} {g : Nat} {C : List Value} (h : GlobAt w0 g C) (hb : Below w0.heap.size w0 w) : GlobAt w g C := by
  obtain ⟨t, f, h⟩ := h; exact ⟨t, f, by rw [hb.block _ (lt_of_block h)]; exact h⟩

section
variable {P : Program} {n : Nat} {env : Env} {a : Act} {w w' : World} {dst : Option Tmp} {ty : TypeId} {pos : String} {af : Array Edge} {g : Option (Nat × Bool)} {x y z : Operand} {t t' : TypeId} {v : Value}

theorem r_build (ha : Has n env a) {Z C : List Value} {len e : Nat} (parts : List (Nat × Operand)) (vs : List (Nat × Value)) (hp : evp env parts = some vs) (hz : ∀ w, (zeroValue t).run P w = .ok (.agg Z.toArray) w) (hT : ∀ w, (underlying t).run P w = .ok (.array len e) w) {sz : Nat} (hsz : ∀ w, (sizeOf e).run P w = .ok sz w)
    (hf : Instr.fill (fun i => some (i * sz, sz)) Z.toArray vs = some C.toArray) :
    (execOp a.eval ⟨dst, .build t parts.toArray, ty, pos, af, g⟩).run P w = .ok (.value (.agg C.toArray)) w := by
  have h := ha.evp parts vs hp
  have hm : (parts.toArray.map fun p => (p.1, a.eval p.2)) = vs.toArray := by rw [List.map_toArray, h]
  simp [execOp, hm, Instr.build, hz, hT, hsz, hf, Value.cells]

end
end Go.Rx

/- Still more operations: signs as masks, u64 told by numbers, an array value's element. -/
namespace Go.Rx
open Go.RowKit Go.Instr

section
variable {P : Program} {n : Nat} {env : Env} {a : Act} {w w' : World} {dst : Option Tmp} {ty : TypeId} {pos : String} {af : Array Edge} {g : Option (Nat × Bool)} {x y z : Operand} {t t' : TypeId} {v : Value}

theorem and_ones (q : Nat) (hq : q ≤ 9223372036854775807) : (BitVec.ofInt 64 (q : Int) &&& BitVec.ofInt 64 (-1)).toNat = q := by
  have h1 : BitVec.ofInt 64 (-1) = BitVec.allOnes 64 := by decide
  rw [h1, BitVec.and_allOnes]; simp; omega
theorem and_zeros (q : Int) : (BitVec.ofInt 64 q &&& BitVec.ofInt 64 0).toNat = 0 := by
  have h1 : BitVec.ofInt 64 0 = 0#64 := by decide
  rw [h1, BitVec.and_zero]; rfl
/-- 'q & (p >> 63)': q where p is below nought, else nought. -/
theorem r_andS (ha : Has n env a) (q : Nat) (p s : Int) (hq : q ≤ 9223372036854775807) (hx : ev env x = some (en q)) (hy : ev env y = some (ei (p / 2 ^ 63))) (hp : -9223372036854775808 ≤ p ∧ p ≤ 9223372036854775807) (hs : s = if p < 0 then (q : Int) else 0) :
    (execOp a.eval ⟨dst, .binOp .and t x y t', ty, pos, af, g⟩).run P w = .ok (.value (ei s)) w := by
  subst hs
  have h : Op.intBits .and .i64 (q : Int) (p / 2 ^ 63) = pure (ei (if p < 0 then (q : Int) else 0)) := by
    by_cases h0 : p < 0
    · have e : p / 2 ^ 63 = -1 := by omega
      rw [e, if_pos h0]
      have e3 : IntKind.i64.wrap (((BitVec.ofInt 64 (q : Int) &&& BitVec.ofInt 64 (-1)).toNat : Nat) : Int) = (q : Int) := by rw [and_ones q hq]; exact i64_in (by omega) (by omega)
      exact congrArg (fun z => pure (Value.int .i64 z)) e3
    · have e : p / 2 ^ 63 = 0 := by omega
      rw [e, if_neg h0]
      have e3 : IntKind.i64.wrap (((BitVec.ofInt 64 (q : Int) &&& BitVec.ofInt 64 0).toNat : Nat) : Int) = 0 := by rw [and_zeros]; exact i64_in (by omega) (by omega)
      exact congrArg (fun z => pure (Value.int .i64 z)) e3
  simp only [execOp, ha.ev hx, ha.ev hy, binOp, h]
  simp [eqGuard]
theorem ru_mul (ha : Has n env a) (p q : UInt64) (hx : ev env x = some (e64 p)) (hy : ev env y = some (e64 q)) :
    (execOp a.eval ⟨dst, .binOp .mul t x y t', ty, pos, af, g⟩).run P w = .ok (.value (e64 (p * q))) w := by
  have e : IntKind.u64.wrap ((p.toNat : Int) * q.toNat) = ((p * q).toNat : Int) := by rw [mod_u64, UInt64.toNat_mul]; simp
  simp [execOp, ha.ev hx, ha.ev hy, eqGuard, binOp, Op.intArith, e, -UInt64.toNat_mul]
theorem rx_mul (ha : Has n env a) (p q : Nat) (hx : ev env x = some (.int .u64 (p : Int))) (hy : ev env y = some (.int .u64 (q : Int))) (h : p * q ≤ 18446744073709551615) :
    (execOp a.eval ⟨dst, .binOp .mul t x y t', ty, pos, af, g⟩).run P w = .ok (.value (.int .u64 ((p * q : Nat) : Int))) w := by
  have e : IntKind.u64.wrap ((p : Int) * (q : Int)) = ((p * q : Nat) : Int) := by
    rw [← Int.natCast_mul]; exact wrap_u64 (by omega) (by omega)
  simp only [execOp, ha.ev hx, ha.ev hy, eqGuard, binOp, Op.intArith, e]
  simp
theorem rx_shr (ha : Has n env a) (p : Nat) {k : IntKind} (q : Nat) (hx : ev env x = some (.int .u64 (p : Int))) (hy : ev env y = some (.int k q)) (hq : q < 64) :
    (execOp a.eval ⟨dst, .binOp .shr t x y t', ty, pos, af, g⟩).run P w = .ok (.value (.int .u64 ((p >>> q : Nat) : Int))) w := by
  have h : Op.shift .shr .u64 (p : Int) k (q : Int) = pure (.int .u64 ((p >>> q : Nat) : Int)) := by
    unfold Op.shift
    rw [if_neg (by omega)]
    simp only [Int.toNat_natCast, IntKind.bits, show min q 64 = q by omega, fdiv_nat]
  simp only [execOp, ha.ev hx, ha.ev hy, binOp, h]
  simp [eqGuard]
theorem r_conv_u32_n (ha : Has n env a) (p : UInt32) {s d : TypeId} (hs : ∀ w, (underlying s).run P w = .ok (.int .u32) w) (hd : ∀ w, (underlying d).run P w = .ok (.int .u64) w) (hx : ev env x = some (e32 p)) :
    (execOp a.eval ⟨dst, .convert s d x, ty, pos, af, g⟩).run P w = .ok (.value (.int .u64 ((p.toNat : Nat) : Int))) w :=
  r_conv_int ha hs hd hx (wrap_u64 (by omega) (by have := lt32 p; omega))
theorem r_conv_un_i64 (ha : Has n env a) (p : Nat) {s d : TypeId} (hs : ∀ w, (underlying s).run P w = .ok (.int .u64) w) (hd : ∀ w, (underlying d).run P w = .ok (.int .i64) w) (hx : ev env x = some (.int .u64 (p : Int))) (hp : p ≤ 9223372036854775807) :
    (execOp a.eval ⟨dst, .convert s d x, ty, pos, af, g⟩).run P w = .ok (.value (en p)) w :=
  r_conv_int ha hs hd hx (i64_in (by omega) (by omega))
theorem cells_glob {w : World} {g : Nat} {C : List Value} (h : GlobAt w g C) : ∀ j u, C[j]? = some u → w.cell? ⟨g, 0 + j, none⟩ = some u := by
  obtain ⟨t, f, h⟩ := h; exact cells_all h
theorem r_index (ha : Has n env a) {C : List Value} {k : IntKind} (i : Nat) {len e : Nat} (hx : ev env x = some (.agg C.toArray)) (hy : ev env y = some (.int k i)) (hT : ∀ w, (underlying t).run P w = .ok (.array len e) w) (hsz : ∀ w, (sizeOf e).run P w = .ok 1 w) (hag : ∀ w, (isAgg e).run P w = .ok false w)
    (hi : i < len) (hv : C[i]? = some v) :
    (execOp a.eval ⟨dst, .index t x y, ty, pos, af, g⟩).run P w = .ok (.value v) w := by
  simp [execOp, ha.ev hx, ha.ev hy, Instr.index, asIntOf, hT, hsz, part, hag, hi, hv]
end
end Go.Rx

/- Several operations that yield values, at once. -/
namespace Go.Rx
open Go.RowKit
def vk (n : Nat) : List Oper → Option (List Nat)
  | [] => some []
  | o :: l => match o.guard, o.dst with
    | none, some d => bif Nat.blt d n then (match vk n l with | some r => some (d :: r) | none => none) else none
    | _, _ => none
theorem vk_cons {n : Nat} {o : Oper} {l : List Oper} {d : Nat} {r : List Nat} (h : vk n (o :: l) = some (d :: r)) : o.guard = none ∧ o.dst = some d ∧ Nat.blt d n = true ∧ vk n l = some r := by
  unfold vk at h
  split at h
  · rename_i e hg hd
    cases hb : Nat.blt e n with
    | false => rw [hb] at h; cases h
    | true =>
      rw [hb] at h
      cases hv : vk n l with
      | none => rw [hv] at h; cases h
      | some q => rw [hv] at h; cases h; exact ⟨hg, hd, hb, rfl⟩
  · cases h
def vc (ops : Array Oper) (st : List Nat) (n : Nat) : List Nat → Option (List (Oper × Nat))
  | [] => some []
  | i :: l => match ops[i]? with
    | none => none
    | some o => match o.guard, o.dst with
      | none, some d => bif st.contains i && Nat.blt d n then (match vc ops st n l with | some r => some ((o, d) :: r) | none => none) else none
      | _, _ => none
theorem vc_cons {ops : Array Oper} {st : List Nat} {n i : Nat} {l : List Nat} {o : Oper} {d : Nat} {r : List (Oper × Nat)} (h : vc ops st n (i :: l) = some ((o, d) :: r)) : ops[i]? = some o ∧ st.contains i = true ∧ o.guard = none ∧ o.dst = some d ∧ Nat.blt d n = true ∧ vc ops st n l = some r := by
  unfold vc at h
  split at h
  · cases h
  · rename_i p hp
    split at h
    · rename_i e hg hd
      cases hb : (st.contains i && Nat.blt e n) with
      | false => rw [hb] at h; cases h
      | true =>
        rw [hb] at h
        cases hv : vc ops st n l with
        | none => rw [hv] at h; cases h
        | some q =>
          rw [hv] at h; cases h
          rw [Bool.and_eq_true] at hb
          exact ⟨hp, hb.1, hg, hd, hb.2, rfl⟩
    · cases h
section
variable {P : Program} {n : Nat} {env : Env} {w : World} {dst : Option Tmp} {ty : TypeId} {pos : String} {af : Array Edge} {g : Option (Nat × Bool)} {x : Operand} {v : Value} {S : World → Prop}
theorem mv (hx : ev env x = some v) : ∀ a, Has n env a → (execOp a.eval ⟨dst, .move x, ty, pos, af, g⟩).run P w = .ok (.value v) w := fun _ ha => r_move ha hx
theorem av (hx : ev env x = some v) : ∀ a, Has n env a → (execOp a.eval ⟨dst, .assign x, ty, pos, af, g⟩).run P w = .ok (.value v) w := fun _ ha => r_assign ha hx
theorem cmv (hx : ev env x = some v) : ∀ w, S w → ∀ a, Has n env a → (execOp a.eval ⟨dst, .move x, ty, pos, af, g⟩).run P w = .ok (.value v) w := fun _ _ _ ha => r_move ha hx
theorem cav (hx : ev env x = some v) : ∀ w, S w → ∀ a, Has n env a → (execOp a.eval ⟨dst, .assign x, ty, pos, af, g⟩).run P w = .ok (.value v) w := fun _ _ _ ha => r_assign ha hx
theorem bl {w : World} {b c : Nat} {u : Obj} (h : w.heap[b]? = some u) (hc : w.heap.size ≤ c) : b < c := Nat.lt_of_lt_of_le (lt_of_block h) hc
theorem nbn {w : World} {b : Nat} {u : Obj} {s : Value} (hd : ∀ j, s.ownBlock = some j → w.heap.size ≤ j) (h : w.heap[b]? = some u) : ∀ j, s.ownBlock = some j → j ≠ b := fun j hj => by
  have h1 := hd j hj; have h2 := lt_of_block h; omega
theorem nds {w : World} {s t : Value} (hd : ∀ j, s.ownBlock = some j → w.heap.size ≤ j) (h : ∀ j, t.ownBlock = some j → j < w.heap.size) : ∀ j, s.ownBlock = some j → t.ownBlock ≠ some j := fun j h1 h2 => by
  have h3 := hd j h1; have h4 := h j h2; omega
theorem qr {Q : Exit → Act → World → Prop} {a : Act} {id : Nat} {l : List Oper} {c : Code} (h : ∀ K : Act → World → Prop, (∀ a w, c.wp P Q a w → K a w) → wpList P l.toArray (Exit.then K Q) l a w) : (Code.seq (.region id l.toArray false) c).wp P Q a w :=
  wp_seq_k fun K hK => region (h K hK)
end
section
variable {P : Program} {ops : Array Oper} {Q : Exit → Act → World → Prop} {a : Act} {w : World} {rest : List Oper} {n : Nat} {env : Env}
theorem scp {o : Oper} {d : Nat} {f : FuncId} {args : Array Value} {v : Value} (ha : Has n env a) (hrun : (execOp a.eval o).run P w = .ok (.enter f args) w) (hg : o.guard = none) (hd : o.dst = some d) (hn : Nat.blt d n = true)
    (hc : Calls P f args w (fun e w' => e = .returned v ∧ Below w.heap.size w w')) (k : ∀ w', w.grownBy w' none → ∀ a', Has n ((d, v) :: env) a' → wpList P ops Q rest a' w') : wpList P ops Q (o :: rest) a w :=
  sc ha hrun hg hd hn hc fun _ w' ⟨he, hB⟩ => ⟨v, he, fun _ ha => k w' (grown_call hB) _ ha⟩
theorem s1 {o1 : Oper} {d1 : Nat} {v1 : Value} (ha : Has n env a) (hk : vk n [o1] = some [d1]) (r1 : ∀ a, Has n env a → (execOp a.eval o1).run P w = .ok (.value v1) w) (k : ∀ a', Has n ((d1, v1) :: env) a' → wpList P ops Q rest a' w) : wpList P ops Q (o1 :: rest) a w := by
  obtain ⟨g1, e1, b1, hk⟩ := vk_cons hk
  exact sv ha (r1 _ ha) g1 e1 b1 fun a ha => k _ ha
theorem s2 {o1 o2 : Oper} {d1 d2 : Nat} {v1 v2 : Value} (ha : Has n env a) (hk : vk n [o1, o2] = some [d1, d2]) (r1 : ∀ a, Has n env a → (execOp a.eval o1).run P w = .ok (.value v1) w) (r2 : ∀ a, Has n ((d1, v1) :: env) a → (execOp a.eval o2).run P w = .ok (.value v2) w) (k : ∀ a', Has n ((d2, v2) :: ((d1, v1) :: env)) a' → wpList P ops Q rest a' w) : wpList P ops Q (o1 :: o2 :: rest) a w := by
  obtain ⟨g1, e1, b1, hk⟩ := vk_cons hk
  obtain ⟨g2, e2, b2, hk⟩ := vk_cons hk
  exact sv ha (r1 _ ha) g1 e1 b1 fun a ha => sv ha (r2 _ ha) g2 e2 b2 fun a ha => k _ ha
theorem s3 {o1 o2 o3 : Oper} {d1 d2 d3 : Nat} {v1 v2 v3 : Value} (ha : Has n env a) (hk : vk n [o1, o2, o3] = some [d1, d2, d3]) (r1 : ∀ a, Has n env a → (execOp a.eval o1).run P w = .ok (.value v1) w) (r2 : ∀ a, Has n ((d1, v1) :: env) a → (execOp a.eval o2).run P w = .ok (.value v2) w) (r3 : ∀ a, Has n ((d2, v2) :: ((d1, v1) :: env)) a → (execOp a.eval o3).run P w = .ok (.value v3) w) (k : ∀ a', Has n ((d3, v3) :: ((d2, v2) :: ((d1, v1) :: env))) a' → wpList P ops Q rest a' w) : wpList P ops Q (o1 :: o2 :: o3 :: rest) a w := by
  obtain ⟨g1, e1, b1, hk⟩ := vk_cons hk
  obtain ⟨g2, e2, b2, hk⟩ := vk_cons hk
  obtain ⟨g3, e3, b3, hk⟩ := vk_cons hk
  exact sv ha (r1 _ ha) g1 e1 b1 fun a ha => sv ha (r2 _ ha) g2 e2 b2 fun a ha => sv ha (r3 _ ha) g3 e3 b3 fun a ha => k _ ha
theorem s4 {o1 o2 o3 o4 : Oper} {d1 d2 d3 d4 : Nat} {v1 v2 v3 v4 : Value} (ha : Has n env a) (hk : vk n [o1, o2, o3, o4] = some [d1, d2, d3, d4]) (r1 : ∀ a, Has n env a → (execOp a.eval o1).run P w = .ok (.value v1) w) (r2 : ∀ a, Has n ((d1, v1) :: env) a → (execOp a.eval o2).run P w = .ok (.value v2) w) (r3 : ∀ a, Has n ((d2, v2) :: ((d1, v1) :: env)) a → (execOp a.eval o3).run P w = .ok (.value v3) w) (r4 : ∀ a, Has n ((d3, v3) :: ((d2, v2) :: ((d1, v1) :: env))) a → (execOp a.eval o4).run P w = .ok (.value v4) w) (k : ∀ a', Has n ((d4, v4) :: ((d3, v3) :: ((d2, v2) :: ((d1, v1) :: env)))) a' → wpList P ops Q rest a' w) : wpList P ops Q (o1 :: o2 :: o3 :: o4 :: rest) a w := by
  obtain ⟨g1, e1, b1, hk⟩ := vk_cons hk
  obtain ⟨g2, e2, b2, hk⟩ := vk_cons hk
  obtain ⟨g3, e3, b3, hk⟩ := vk_cons hk
  obtain ⟨g4, e4, b4, hk⟩ := vk_cons hk
  exact sv ha (r1 _ ha) g1 e1 b1 fun a ha => sv ha (r2 _ ha) g2 e2 b2 fun a ha => sv ha (r3 _ ha) g3 e3 b3 fun a ha => sv ha (r4 _ ha) g4 e4 b4 fun a ha => k _ ha
theorem s5 {o1 o2 o3 o4 o5 : Oper} {d1 d2 d3 d4 d5 : Nat} {v1 v2 v3 v4 v5 : Value} (ha : Has n env a) (hk : vk n [o1, o2, o3, o4, o5] = some [d1, d2, d3, d4, d5]) (r1 : ∀ a, Has n env a → (execOp a.eval o1).run P w = .ok (.value v1) w) (r2 : ∀ a, Has n ((d1, v1) :: env) a → (execOp a.eval o2).run P w = .ok (.value v2) w) (r3 : ∀ a, Has n ((d2, v2) :: ((d1, v1) :: env)) a → (execOp a.eval o3).run P w = .ok (.value v3) w) (r4 : ∀ a, Has n ((d3, v3) :: ((d2, v2) :: ((d1, v1) :: env))) a → (execOp a.eval o4).run P w = .ok (.value v4) w) (r5 : ∀ a, Has n ((d4, v4) :: ((d3, v3) :: ((d2, v2) :: ((d1, v1) :: env)))) a → (execOp a.eval o5).run P w = .ok (.value v5) w) (k : ∀ a', Has n ((d5, v5) :: ((d4, v4) :: ((d3, v3) :: ((d2, v2) :: ((d1, v1) :: env))))) a' → wpList P ops Q rest a' w) : wpList P ops Q (o1 :: o2 :: o3 :: o4 :: o5 :: rest) a w := by
  obtain ⟨g1, e1, b1, hk⟩ := vk_cons hk
  obtain ⟨g2, e2, b2, hk⟩ := vk_cons hk
  obtain ⟨g3, e3, b3, hk⟩ := vk_cons hk
  obtain ⟨g4, e4, b4, hk⟩ := vk_cons hk
  obtain ⟨g5, e5, b5, hk⟩ := vk_cons hk
  exact sv ha (r1 _ ha) g1 e1 b1 fun a ha => sv ha (r2 _ ha) g2 e2 b2 fun a ha => sv ha (r3 _ ha) g3 e3 b3 fun a ha => sv ha (r4 _ ha) g4 e4 b4 fun a ha => sv ha (r5 _ ha) g5 e5 b5 fun a ha => k _ ha
theorem s6 {o1 o2 o3 o4 o5 o6 : Oper} {d1 d2 d3 d4 d5 d6 : Nat} {v1 v2 v3 v4 v5 v6 : Value} (ha : Has n env a) (hk : vk n [o1, o2, o3, o4, o5, o6] = some [d1, d2, d3, d4, d5, d6]) (r1 : ∀ a, Has n env a → (execOp a.eval o1).run P w = .ok (.value v1) w) (r2 : ∀ a, Has n ((d1, v1) :: env) a → (execOp a.eval o2).run P w = .ok (.value v2) w) (r3 : ∀ a, Has n ((d2, v2) :: ((d1, v1) :: env)) a → (execOp a.eval o3).run P w = .ok (.value v3) w) (r4 : ∀ a, Has n ((d3, v3) :: ((d2, v2) :: ((d1, v1) :: env))) a → (execOp a.eval o4).run P w = .ok (.value v4) w) (r5 : ∀ a, Has n ((d4, v4) :: ((d3, v3) :: ((d2, v2) :: ((d1, v1) :: env)))) a → (execOp a.eval o5).run P w = .ok (.value v5) w) (r6 : ∀ a, Has n ((d5, v5) :: ((d4, v4) :: ((d3, v3) :: ((d2, v2) :: ((d1, v1) :: env))))) a → (execOp a.eval o6).run P w = .ok (.value v6) w) (k : ∀ a', Has n ((d6, v6) :: ((d5, v5) :: ((d4, v4) :: ((d3, v3) :: ((d2, v2) :: ((d1, v1) :: env)))))) a' → wpList P ops Q rest a' w) : wpList P ops Q (o1 :: o2 :: o3 :: o4 :: o5 :: o6 :: rest) a w := by
  obtain ⟨g1, e1, b1, hk⟩ := vk_cons hk
  obtain ⟨g2, e2, b2, hk⟩ := vk_cons hk
  obtain ⟨g3, e3, b3, hk⟩ := vk_cons hk
  obtain ⟨g4, e4, b4, hk⟩ := vk_cons hk
  obtain ⟨g5, e5, b5, hk⟩ := vk_cons hk
  obtain ⟨g6, e6, b6, hk⟩ := vk_cons hk
  exact sv ha (r1 _ ha) g1 e1 b1 fun a ha => sv ha (r2 _ ha) g2 e2 b2 fun a ha => sv ha (r3 _ ha) g3 e3 b3 fun a ha => sv ha (r4 _ ha) g4 e4 b4 fun a ha => sv ha (r5 _ ha) g5 e5 b5 fun a ha => sv ha (r6 _ ha) g6 e6 b6 fun a ha => k _ ha
end
section
variable {P : Program} {ops : Array Oper} {Q : Exit → Act → World → Prop} {S : World → Prop} {T st : List Nat} {a : Act} {w : World} {r : List Nat} {n : Nat} {env : Env}
theorem c1 {i1 : Nat} {o1 : Oper} {d1 : Nat} {v1 : Value} (ha : Has n env a) (hk : vc ops st n [i1] = some [(o1, d1)]) (r1 : ∀ w, S w → ∀ a, Has n env a → (execOp a.eval o1).run P w = .ok (.value v1) w) (k : ∀ a', Has n ((d1, v1) :: env) a' → wpC P ops Q S T st r a' w) : wpC P ops Q S T st (i1 :: r) a w := by
  obtain ⟨hi1, hc1, g1, e1, b1, hk⟩ := vc_cons hk
  exact cv ha hi1 hc1 (fun w hS => r1 w hS _ ha) g1 e1 b1 fun a ha => k _ ha
theorem c2 {i1 i2 : Nat} {o1 o2 : Oper} {d1 d2 : Nat} {v1 v2 : Value} (ha : Has n env a) (hk : vc ops st n [i1, i2] = some [(o1, d1), (o2, d2)]) (r1 : ∀ w, S w → ∀ a, Has n env a → (execOp a.eval o1).run P w = .ok (.value v1) w) (r2 : ∀ w, S w → ∀ a, Has n ((d1, v1) :: env) a → (execOp a.eval o2).run P w = .ok (.value v2) w) (k : ∀ a', Has n ((d2, v2) :: ((d1, v1) :: env)) a' → wpC P ops Q S T st r a' w) : wpC P ops Q S T st (i1 :: i2 :: r) a w := by
  obtain ⟨hi1, hc1, g1, e1, b1, hk⟩ := vc_cons hk
  obtain ⟨hi2, hc2, g2, e2, b2, hk⟩ := vc_cons hk
  exact cv ha hi1 hc1 (fun w hS => r1 w hS _ ha) g1 e1 b1 fun a ha => cv ha hi2 hc2 (fun w hS => r2 w hS _ ha) g2 e2 b2 fun a ha => k _ ha
theorem c3 {i1 i2 i3 : Nat} {o1 o2 o3 : Oper} {d1 d2 d3 : Nat} {v1 v2 v3 : Value} (ha : Has n env a) (hk : vc ops st n [i1, i2, i3] = some [(o1, d1), (o2, d2), (o3, d3)]) (r1 : ∀ w, S w → ∀ a, Has n env a → (execOp a.eval o1).run P w = .ok (.value v1) w) (r2 : ∀ w, S w → ∀ a, Has n ((d1, v1) :: env) a → (execOp a.eval o2).run P w = .ok (.value v2) w) (r3 : ∀ w, S w → ∀ a, Has n ((d2, v2) :: ((d1, v1) :: env)) a → (execOp a.eval o3).run P w = .ok (.value v3) w) (k : ∀ a', Has n ((d3, v3) :: ((d2, v2) :: ((d1, v1) :: env))) a' → wpC P ops Q S T st r a' w) : wpC P ops Q S T st (i1 :: i2 :: i3 :: r) a w := by
  obtain ⟨hi1, hc1, g1, e1, b1, hk⟩ := vc_cons hk
  obtain ⟨hi2, hc2, g2, e2, b2, hk⟩ := vc_cons hk
  obtain ⟨hi3, hc3, g3, e3, b3, hk⟩ := vc_cons hk
  exact cv ha hi1 hc1 (fun w hS => r1 w hS _ ha) g1 e1 b1 fun a ha => cv ha hi2 hc2 (fun w hS => r2 w hS _ ha) g2 e2 b2 fun a ha => cv ha hi3 hc3 (fun w hS => r3 w hS _ ha) g3 e3 b3 fun a ha => k _ ha
theorem c4 {i1 i2 i3 i4 : Nat} {o1 o2 o3 o4 : Oper} {d1 d2 d3 d4 : Nat} {v1 v2 v3 v4 : Value} (ha : Has n env a) (hk : vc ops st n [i1, i2, i3, i4] = some [(o1, d1), (o2, d2), (o3, d3), (o4, d4)]) (r1 : ∀ w, S w → ∀ a, Has n env a → (execOp a.eval o1).run P w = .ok (.value v1) w) (r2 : ∀ w, S w → ∀ a, Has n ((d1, v1) :: env) a → (execOp a.eval o2).run P w = .ok (.value v2) w) (r3 : ∀ w, S w → ∀ a, Has n ((d2, v2) :: ((d1, v1) :: env)) a → (execOp a.eval o3).run P w = .ok (.value v3) w) (r4 : ∀ w, S w → ∀ a, Has n ((d3, v3) :: ((d2, v2) :: ((d1, v1) :: env))) a → (execOp a.eval o4).run P w = .ok (.value v4) w) (k : ∀ a', Has n ((d4, v4) :: ((d3, v3) :: ((d2, v2) :: ((d1, v1) :: env)))) a' → wpC P ops Q S T st r a' w) : wpC P ops Q S T st (i1 :: i2 :: i3 :: i4 :: r) a w := by
  obtain ⟨hi1, hc1, g1, e1, b1, hk⟩ := vc_cons hk
  obtain ⟨hi2, hc2, g2, e2, b2, hk⟩ := vc_cons hk
  obtain ⟨hi3, hc3, g3, e3, b3, hk⟩ := vc_cons hk
  obtain ⟨hi4, hc4, g4, e4, b4, hk⟩ := vc_cons hk
  exact cv ha hi1 hc1 (fun w hS => r1 w hS _ ha) g1 e1 b1 fun a ha => cv ha hi2 hc2 (fun w hS => r2 w hS _ ha) g2 e2 b2 fun a ha => cv ha hi3 hc3 (fun w hS => r3 w hS _ ha) g3 e3 b3 fun a ha => cv ha hi4 hc4 (fun w hS => r4 w hS _ ha) g4 e4 b4 fun a ha => k _ ha
theorem c5 {i1 i2 i3 i4 i5 : Nat} {o1 o2 o3 o4 o5 : Oper} {d1 d2 d3 d4 d5 : Nat} {v1 v2 v3 v4 v5 : Value} (ha : Has n env a) (hk : vc ops st n [i1, i2, i3, i4, i5] = some [(o1, d1), (o2, d2), (o3, d3), (o4, d4), (o5, d5)]) (r1 : ∀ w, S w → ∀ a, Has n env a → (execOp a.eval o1).run P w = .ok (.value v1) w) (r2 : ∀ w, S w → ∀ a, Has n ((d1, v1) :: env) a → (execOp a.eval o2).run P w = .ok (.value v2) w) (r3 : ∀ w, S w → ∀ a, Has n ((d2, v2) :: ((d1, v1) :: env)) a → (execOp a.eval o3).run P w = .ok (.value v3) w) (r4 : ∀ w, S w → ∀ a, Has n ((d3, v3) :: ((d2, v2) :: ((d1, v1) :: env))) a → (execOp a.eval o4).run P w = .ok (.value v4) w) (r5 : ∀ w, S w → ∀ a, Has n ((d4, v4) :: ((d3, v3) :: ((d2, v2) :: ((d1, v1) :: env)))) a → (execOp a.eval o5).run P w = .ok (.value v5) w) (k : ∀ a', Has n ((d5, v5) :: ((d4, v4) :: ((d3, v3) :: ((d2, v2) :: ((d1, v1) :: env))))) a' → wpC P ops Q S T st r a' w) : wpC P ops Q S T st (i1 :: i2 :: i3 :: i4 :: i5 :: r) a w := by
  obtain ⟨hi1, hc1, g1, e1, b1, hk⟩ := vc_cons hk
  obtain ⟨hi2, hc2, g2, e2, b2, hk⟩ := vc_cons hk
  obtain ⟨hi3, hc3, g3, e3, b3, hk⟩ := vc_cons hk
  obtain ⟨hi4, hc4, g4, e4, b4, hk⟩ := vc_cons hk
  obtain ⟨hi5, hc5, g5, e5, b5, hk⟩ := vc_cons hk
  exact cv ha hi1 hc1 (fun w hS => r1 w hS _ ha) g1 e1 b1 fun a ha => cv ha hi2 hc2 (fun w hS => r2 w hS _ ha) g2 e2 b2 fun a ha => cv ha hi3 hc3 (fun w hS => r3 w hS _ ha) g3 e3 b3 fun a ha => cv ha hi4 hc4 (fun w hS => r4 w hS _ ha) g4 e4 b4 fun a ha => cv ha hi5 hc5 (fun w hS => r5 w hS _ ha) g5 e5 b5 fun a ha => k _ ha
theorem c6 {i1 i2 i3 i4 i5 i6 : Nat} {o1 o2 o3 o4 o5 o6 : Oper} {d1 d2 d3 d4 d5 d6 : Nat} {v1 v2 v3 v4 v5 v6 : Value} (ha : Has n env a) (hk : vc ops st n [i1, i2, i3, i4, i5, i6] = some [(o1, d1), (o2, d2), (o3, d3), (o4, d4), (o5, d5), (o6, d6)]) (r1 : ∀ w, S w → ∀ a, Has n env a → (execOp a.eval o1).run P w = .ok (.value v1) w) (r2 : ∀ w, S w → ∀ a, Has n ((d1, v1) :: env) a → (execOp a.eval o2).run P w = .ok (.value v2) w) (r3 : ∀ w, S w → ∀ a, Has n ((d2, v2) :: ((d1, v1) :: env)) a → (execOp a.eval o3).run P w = .ok (.value v3) w) (r4 : ∀ w, S w → ∀ a, Has n ((d3, v3) :: ((d2, v2) :: ((d1, v1) :: env))) a → (execOp a.eval o4).run P w = .ok (.value v4) w) (r5 : ∀ w, S w → ∀ a, Has n ((d4, v4) :: ((d3, v3) :: ((d2, v2) :: ((d1, v1) :: env)))) a → (execOp a.eval o5).run P w = .ok (.value v5) w) (r6 : ∀ w, S w → ∀ a, Has n ((d5, v5) :: ((d4, v4) :: ((d3, v3) :: ((d2, v2) :: ((d1, v1) :: env))))) a → (execOp a.eval o6).run P w = .ok (.value v6) w) (k : ∀ a', Has n ((d6, v6) :: ((d5, v5) :: ((d4, v4) :: ((d3, v3) :: ((d2, v2) :: ((d1, v1) :: env)))))) a' → wpC P ops Q S T st r a' w) : wpC P ops Q S T st (i1 :: i2 :: i3 :: i4 :: i5 :: i6 :: r) a w := by
  obtain ⟨hi1, hc1, g1, e1, b1, hk⟩ := vc_cons hk
  obtain ⟨hi2, hc2, g2, e2, b2, hk⟩ := vc_cons hk
  obtain ⟨hi3, hc3, g3, e3, b3, hk⟩ := vc_cons hk
  obtain ⟨hi4, hc4, g4, e4, b4, hk⟩ := vc_cons hk
  obtain ⟨hi5, hc5, g5, e5, b5, hk⟩ := vc_cons hk
  obtain ⟨hi6, hc6, g6, e6, b6, hk⟩ := vc_cons hk
  exact cv ha hi1 hc1 (fun w hS => r1 w hS _ ha) g1 e1 b1 fun a ha => cv ha hi2 hc2 (fun w hS => r2 w hS _ ha) g2 e2 b2 fun a ha => cv ha hi3 hc3 (fun w hS => r3 w hS _ ha) g3 e3 b3 fun a ha => cv ha hi4 hc4 (fun w hS => r4 w hS _ ha) g4 e4 b4 fun a ha => cv ha hi5 hc5 (fun w hS => r5 w hS _ ha) g5 e5 b5 fun a ha => cv ha hi6 hc6 (fun w hS => r6 w hS _ ha) g6 e6 b6 fun a ha => k _ ha
end
end Go.Rx

/- Plain functions and laws of layer 10: arithmetic by 3329. No program and no memory here. -/
set_option maxRecDepth 100000
set_option exponentiation.threshold 4000
namespace Go.Rx

def powers : List Nat := [1729, 2580, 2642, 1062, 296, 289, 17]
def zmod (x : Int) : Nat := (x % 3329).toNat
theorem zmod_lt (x : Int) : zmod x < 3329 := by unfold zmod; omega
theorem zmod_int (x : Int) : ((zmod x : Nat) : Int) = x % 3329 := by unfold zmod; omega
theorem zmod_nat (n : Nat) : zmod (n : Int) = n % 3329 := by unfold zmod; omega
theorem zmod_of_lt {n : Nat} (h : n < 3329) : zmod (n : Int) = n := by rw [zmod_nat, Nat.mod_eq_of_lt h]
theorem tm_emod (x m : Int) (hm : 0 < m) : (0 ≤ x.tmod m → x.tmod m = x % m) ∧ (x.tmod m < 0 → x.tmod m + m = x % m) ∧ -m < x.tmod m ∧ x.tmod m < m := by
  have e := Int.tmod_eq_emod (a := x) (b := m)
  have h1 := Int.emod_nonneg x (Int.ne_of_gt hm)
  have h2 := Int.emod_lt_of_pos x hm
  rw [e]
  by_cases h : 0 ≤ x ∨ m ∣ x
  · rw [if_pos h]; exact ⟨fun _ => by omega, fun _ => by omega, by omega, by omega⟩
  · rw [if_neg h]
    have h3 : x % m ≠ 0 := fun h3 => h (.inr (Int.dvd_of_emod_eq_zero h3))
    have h4 : ((m.natAbs : Nat) : Int) = m := by omega
    rw [h4]
    exact ⟨fun _ => by omega, fun _ => by omega, by omega, by omega⟩
theorem tm_facts (x : Int) : -3329 < x.tmod 3329 ∧ x.tmod 3329 < 3329 ∧ x.tmod 3329 + (if x.tmod 3329 < 0 then ((3329 : Nat) : Int) else 0) = ((zmod x : Nat) : Int) := by
  obtain ⟨h1, h2, h3, h4⟩ := tm_emod x 3329 (by decide)
  refine ⟨h3, h4, ?_⟩
  rw [zmod_int]
  split
  · rename_i h; rw [← h2 h]; rfl
  · rename_i h; rw [← h1 (by omega)]; omega
def zadd (a b : Int) : Nat := zmod ((zmod a + zmod b : Nat) : Int)
def zsub (a b : Int) : Nat := zmod (((zmod a : Nat) : Int) - ((zmod b : Nat) : Int))
def zmul (a b : Int) : Nat := zmod a * zmod b % 3329
theorem zmul_lt (a b : Int) : zmul a b < 3329 := Nat.mod_lt _ (by decide)
theorem zprod_le (a b : Int) : zmod a * zmod b ≤ 3328 * 3328 := Nat.mul_le_mul (by have := zmod_lt a; omega) (by have := zmod_lt b; omega)
theorem ofNat32 (n : Nat) (h : n < 4294967296) : (UInt32.ofNat n).toNat = n := UInt32.toNat_ofNat_of_lt' h
theorem mul_eq (a b : Int) : (UInt32.ofNat (zmod a * zmod b)).toNat % 3329 = zmul a b := by rw [ofNat32 _ (by have := zprod_le a b; omega)]; rfl

/-! ### Montgomery -/
/-! ### Powers -/
def pn (n : Nat) : Nat → Nat
  | 0 => n
  | k + 1 => pn n k >>> 1
def rp (z : Nat) : Nat → Nat
  | 0 => 1
  | i + 1 => rp z i * z % 3329
theorem rp_lt (z : Nat) : ∀ i, rp z i < 3329
  | 0 => (by decide : 1 < 3329)
  | i + 1 => Nat.mod_lt _ (by decide)
def rpow (a : Int) (n : Nat) : Nat := if zmod a = 0 ∧ 0 < n then 0 else rp (zmod a) (n % 3328)
/-- A check of all numbers below n, by halves. -/
def allB (p : Nat → Bool) : Nat → Nat → Bool
  | 0, i => p i
  | d + 1, i => allB p d (2 * i) && allB p d (2 * i + 1)
theorem allB_spec (p : Nat → Bool) : ∀ d i, allB p d i = true → ∀ j, i * 2 ^ d ≤ j → j < (i + 1) * 2 ^ d → p j = true
  | 0, i, h, j, h1, h2 => by
    have : j = i := by omega
    subst this; exact h
  | d + 1, i, h, j, h1, h2 => by
    simp only [allB, Bool.and_eq_true] at h
    have e : 2 ^ (d + 1) = 2 * 2 ^ d := by rw [Nat.pow_succ]; omega
    rw [e, ← Nat.mul_assoc, Nat.mul_comm i 2] at h1
    rw [e, ← Nat.mul_assoc, Nat.mul_comm (i + 1) 2] at h2
    by_cases hj : j < (2 * i + 1) * 2 ^ d
    · exact allB_spec p d (2 * i) h.1 j h1 hj
    · exact allB_spec p d (2 * i + 1) h.2 j (by omega) (by rw [show 2 * i + 1 + 1 = 2 * (i + 1) by omega]; exact h2)
/-- a to the power of 3328 by twelve squarings: 3328 = 2^8 * 13. -/
def sq (a : Nat) : Nat := a * a % 3329
def p13 (a : Nat) : Nat := a * sq (sq a) % 3329 * sq (sq (sq a)) % 3329
def p3328 (a : Nat) : Nat := sq (sq (sq (sq (sq (sq (sq (sq (p13 a))))))))
theorem fermat_all : allB (fun a => Nat.beq (a % 3329) 0 || Nat.beq (p3328 a) 1) 12 0 = true := by decide +kernel
theorem sq_eq (a n m : Nat) (h : m = a ^ n % 3329) : sq m = a ^ (2 * n) % 3329 := by
  subst h; unfold sq; rw [← Nat.mul_mod, ← Nat.pow_two, ← Nat.pow_mul, Nat.mul_comm n 2]
theorem p3328_eq (a : Nat) (ha : a < 3329) : p3328 a = a ^ 3328 % 3329 := by
  have h1 : a = a ^ 1 % 3329 := by rw [Nat.pow_one, Nat.mod_eq_of_lt ha]
  have h2 := sq_eq a 1 a h1
  have h4 := sq_eq a 2 _ h2
  have h8 := sq_eq a 4 _ h4
  have h13 : p13 a = a ^ 13 % 3329 := by
    unfold p13
    rw [h8, h4]
    rw [Nat.mul_mod_mod, Nat.mod_mul_mod, Nat.mul_comm a, Nat.mul_assoc, Nat.mod_mul_mod]
    congr 1
    rw [show a ^ 13 = a ^ (2 * 2 + (1 + 2 * 4)) from rfl, Nat.pow_add, Nat.pow_add, Nat.pow_one]
  exact sq_eq a 1664 _ (sq_eq a 832 _ (sq_eq a 416 _ (sq_eq a 208 _ (sq_eq a 104 _ (sq_eq a 52 _ (sq_eq a 26 _ (sq_eq a 13 _ h13)))))))
theorem fermat (a : Nat) (h0 : a ≠ 0) (ha : a < 3329) : a ^ 3328 % 3329 = 1 := by
  have h := allB_spec _ 12 0 fermat_all a (by omega) (by omega)
  rw [Nat.mod_eq_of_lt ha] at h
  simp only [Bool.or_eq_true] at h
  rw [← p3328_eq a ha]
  rcases h with h | h
  · exact absurd (Nat.eq_of_beq_eq_true h) h0
  · exact Nat.eq_of_beq_eq_true h
/-! ### Rounding -/
def zcomp (d : Nat) (x : Int) : Nat := (zmod x * 2 ^ (d + 1) + 3329) / 6658 % 2 ^ d
def zcompZ (d x : Int) : Nat := if 1 ≤ d ∧ d ≤ 11 then zcomp d.toNat x else 0
def zdec (d : Nat) (y : Int) : Nat := (6658 * (y % (2 ^ d : Nat)).toNat + 2 ^ d) / 2 ^ (d + 1)
def zdecZ (d y : Int) : Nat := if 1 ≤ d ∧ d ≤ 11 then zdec d.toNat y else 0

/-! ### Zetas -/
def zz (i : Int) : Nat → Nat
  | 0 => 1
  | j + 1 => if (i / 2 ^ j % (2 ^ 1 : Nat)).toNat = 1 then zmul ((zz i j : Nat) : Int) ((powers.getD j 0 : Nat) : Int) else zz i j
def tu0 (i : Int) : Nat → Nat
  | 0 => (i % (2 ^ 7 : Nat)).toNat
  | j + 1 => tu0 i j / 2
def tuN (i : Int) : Nat → Nat
  | 0 => 0
  | j + 1 => tuN i j * 2 + tu0 i j % 2
def turned (i : Int) : Nat := tuN i 7
theorem tuN_le (i : Int) : ∀ j, tuN i j < 2 ^ j
  | 0 => (by decide : 0 < 1)
  | j + 1 => by have := tuN_le i j; simp only [tuN]; rw [Nat.pow_succ]; omega
theorem tu0_le (i : Int) : ∀ j, tu0 i j < 128
  | 0 => by simp only [tu0]; omega
  | j + 1 => by have := tu0_le i j; simp only [tu0]; omega
/-! ### A field -/
theorem zadd_eq (a b : Int) : zadd a b = (zmod a + zmod b) % 3329 := zmod_nat _
theorem zsub_eq (a b : Int) : zsub a b = (zmod a + 3329 - zmod b) % 3329 := by have := zmod_lt b; unfold zsub zmod at *; omega
theorem zmod_zmod (x : Int) : zmod ((zmod x : Nat) : Int) = zmod x := zmod_of_lt (zmod_lt x)
theorem zmod_zadd (a b : Int) : zmod ((zadd a b : Nat) : Int) = zadd a b := zmod_of_lt (zmod_lt _)
theorem zmod_zsub (a b : Int) : zmod ((zsub a b : Nat) : Int) = zsub a b := zmod_of_lt (zmod_lt _)
theorem zmod_zmul (a b : Int) : zmod ((zmul a b : Nat) : Int) = zmul a b := zmod_of_lt (zmul_lt _ _)
end Go.Rx

/- The seat's program: what its package-level variables hold. -/
namespace Go.Proofs.YtaignhikdfpbbaaGreatDoor
open Go.RowKit Go.Rx
theorem mixed : Tryz.prog.follows .mixedOrders = true := by kernel_rfl
def Glob (w : World) : Prop := GlobAt w 1 (consts.map e64) ∧ GlobAt w 2 (turns.map en)
theorem glob_keep {w0 w : World} (h : Glob w0) (hb : Below w0.heap.size w0 w) : Glob w := ⟨(h.1).keep hb, (h.2).keep hb⟩
theorem glob_1 {w0 w : World} (h : Glob w0) (hb : Below w0.heap.size w0 w) : GlobAt w 1 (consts.map e64) := (h.1).keep hb
theorem glob_2 {w0 w : World} (h : Glob w0) (hb : Below w0.heap.size w0 w) : GlobAt w 2 (turns.map en) := (h.2).keep hb
def GlobP (w : World) : Prop := GlobAt w 0 (powers.map en)
theorem globP_keep {w0 w : World} (h : GlobP w0) (hb : Below w0.heap.size w0 w) : GlobP w := GlobAt.keep h hb
theorem glob_0 {w0 w : World} (h : GlobP w0) (hb : Below w0.heap.size w0 w) : GlobAt w 0 (powers.map en) := GlobAt.keep h hb
end Go.Proofs.YtaignhikdfpbbaaGreatDoor

/- WALKS written by gen.py (own program) out of specs. -/
namespace Go.Proofs.YtaignhikdfpbbaaGreatDoor
open Go.RowKit Go.Rx
set_option maxRecDepth 100000
set_option maxHeartbeats 4000000
set_option linter.unusedVariables false
set_option linter.unusedSimpArgs false

theorem c_mod (x : Int) (w0 : World) :
    Calls Tryz.prog 94 #[ei x] w0 fun e w' => e = .returned (en (zmod x)) ∧ Below w0.heap.size w0 w' := by
 refine enter (args := [_]) Tryz.func94 rfl Tryz.ntmps94 rfl ?_
 intro a ha
 have hB := Below.refl w0.heap.size w0
 have htm := tm_facts x
 refine qr fun K1 k2 => ?_
 refine s1 ha rfl (av rfl) ?_; intro a ha
 refine k2 _ _ ?_
 refine qr fun K3 k4 => ?_
 refine s3 ha rfl (mv rfl) (fun _ ha => r_rem ha x 3329 rfl rfl (by omega)) (av rfl) ?_; intro a ha
 refine k4 _ _ ?_
 refine qr fun K5 k6 => ?_
 refine s6 ha rfl (mv rfl) (mv rfl) (fun _ ha => r_shr ha (x.tmod 3329) 63 rfl rfl (by omega)) (fun _ ha => r_andS ha 3329 (x.tmod 3329) (if (x.tmod 3329) < 0 then ((3329 : Nat) : Int) else 0) (by omega) rfl rfl (by omega) rfl) (fun _ ha => n_of (r_add ha (x.tmod 3329) (if (x.tmod 3329) < 0 then ((3329 : Nat) : Int) else 0) rfl rfl (by split <;> omega)) (k := zmod x) htm.2.2) (av rfl) ?_; intro a ha
 refine k6 _ _ ?_
 refine wp_ret ?_
 exact ret1 ha Tryz.results94 rfl ⟨rfl, hB⟩

theorem c_barrett (x : UInt32) (w0 : World) :
    Calls Tryz.prog 116 #[e32 x] w0 fun e w' => e = .returned (en (x.toNat % 3329)) ∧ Below w0.heap.size w0 w' := by
 refine enter (args := [_]) Tryz.func116 rfl Tryz.ntmps116 rfl ?_
 intro a ha
 have hB := Below.refl w0.heap.size w0
 have hx := lt32 x
 refine qr fun K1 k2 => ?_
 refine s1 ha rfl (av rfl) ?_; intro a ha
 refine k2 _ _ ?_
 refine qr fun K3 k4 => ?_
 refine s5 ha rfl (mv rfl) (fun _ ha => r_conv_u32_n ha x Tryz.runUnderlying111 Tryz.runUnderlying98 rfl) (fun _ ha => rx_mul ha x.toNat 2642262849 rfl rfl (by omega)) (fun _ ha => rx_shr ha (x.toNat * 2642262849) 43 rfl rfl (by omega)) (av rfl) ?_; intro a ha
 refine k4 _ _ ?_
 refine qr fun K5 k6 => ?_
 refine s6 ha rfl (mv rfl) (fun _ ha => r_conv_u32_i64 ha x Tryz.runUnderlying111 Tryz.runUnderlying3 rfl) (mv rfl) (fun _ ha => r_conv_un_i64 ha ((x.toNat * 2642262849) >>> 43) Tryz.runUnderlying98 Tryz.runUnderlying3 rfl (by omega)) (fun _ ha => rn_mul ha ((x.toNat * 2642262849) >>> 43) 3329 rfl rfl (by omega)) (fun _ ha => r_sub ha ((x.toNat : Nat) : Int) ((((x.toNat * 2642262849) >>> 43) * 3329 : Nat) : Int) rfl rfl (by omega)) ?_; intro a ha
 refine s1 ha rfl (av rfl) ?_; intro a ha
 refine k6 _ _ ?_
 refine qr fun K7 k8 => ?_
 refine s6 ha rfl (mv rfl) (mv rfl) (fun _ ha => r_shr ha (((x.toNat : Nat) : Int) - ((((x.toNat * 2642262849) >>> 43) * 3329 : Nat) : Int)) 63 rfl rfl (by omega)) (fun _ ha => r_andS ha 3329 (((x.toNat : Nat) : Int) - ((((x.toNat * 2642262849) >>> 43) * 3329 : Nat) : Int)) (if (((x.toNat : Nat) : Int) - ((((x.toNat * 2642262849) >>> 43) * 3329 : Nat) : Int)) < 0 then ((3329 : Nat) : Int) else 0) (by omega) rfl rfl (by omega) rfl) (fun _ ha => n_of (r_add ha (((x.toNat : Nat) : Int) - ((((x.toNat * 2642262849) >>> 43) * 3329 : Nat) : Int)) (if (((x.toNat : Nat) : Int) - ((((x.toNat * 2642262849) >>> 43) * 3329 : Nat) : Int)) < 0 then ((3329 : Nat) : Int) else 0) rfl rfl (by split <;> omega)) (k := x.toNat % 3329) (by split <;> omega)) (av rfl) ?_; intro a ha
 refine k8 _ _ ?_
 refine wp_ret ?_
 exact ret1 ha Tryz.results116 rfl ⟨rfl, hB⟩

theorem c_add (x y : Int) (w0 : World) :
    Calls Tryz.prog 87 #[ei x, ei y] w0 fun e w' => e = .returned (en (zadd x y)) ∧ Below w0.heap.size w0 w' := by
 refine enter (args := [_, _]) Tryz.func87 rfl Tryz.ntmps87 rfl ?_
 intro a ha
 have hB := Below.refl w0.heap.size w0
 have hza := zmod_lt x
 have hzb := zmod_lt y
 refine qr fun K1 k2 => ?_
 refine s1 ha rfl (av rfl) ?_; intro a ha
 refine k2 _ _ ?_
 refine qr fun K3 k4 => ?_
 refine s1 ha rfl (mv rfl) ?_; intro a ha
 refine scp ha (r_call ha [ei x] rfl Tryz.call94) rfl rfl rfl (c_mod x _ ) ?_; intro w5 hg a ha
 replace hB := keepB0 hg hB
 refine s1 ha rfl (mv rfl) ?_; intro a ha
 refine scp ha (r_call ha [ei y] rfl Tryz.call94) rfl rfl rfl (c_mod y _ ) ?_; intro w6 hg a ha
 replace hB := keepB0 hg hB
 refine s1 ha rfl (fun _ ha => rn_add ha (zmod x) (zmod y) rfl rfl (by omega)) ?_; intro a ha
 refine scp ha (r_call ha [ei (((zmod x) + (zmod y) : Nat) : Int)] rfl Tryz.call94) rfl rfl rfl (c_mod (((zmod x) + (zmod y) : Nat) : Int) _ ) ?_; intro w7 hg a ha
 replace hB := keepB0 hg hB
 refine s1 ha rfl (av rfl) ?_; intro a ha
 refine k4 _ _ ?_
 refine wp_ret ?_
 exact ret1 ha Tryz.results87 rfl ⟨rfl, hB⟩

theorem c_sub (x y : Int) (w0 : World) :
    Calls Tryz.prog 86 #[ei x, ei y] w0 fun e w' => e = .returned (en (zsub x y)) ∧ Below w0.heap.size w0 w' := by
 refine enter (args := [_, _]) Tryz.func86 rfl Tryz.ntmps86 rfl ?_
 intro a ha
 have hB := Below.refl w0.heap.size w0
 have hza := zmod_lt x
 have hzb := zmod_lt y
 refine qr fun K1 k2 => ?_
 refine s1 ha rfl (av rfl) ?_; intro a ha
 refine k2 _ _ ?_
 refine qr fun K3 k4 => ?_
 refine s1 ha rfl (mv rfl) ?_; intro a ha
 refine scp ha (r_call ha [ei x] rfl Tryz.call94) rfl rfl rfl (c_mod x _ ) ?_; intro w5 hg a ha
 replace hB := keepB0 hg hB
 refine s1 ha rfl (mv rfl) ?_; intro a ha
 refine scp ha (r_call ha [ei y] rfl Tryz.call94) rfl rfl rfl (c_mod y _ ) ?_; intro w6 hg a ha
 replace hB := keepB0 hg hB
 refine s1 ha rfl (fun _ ha => r_sub ha ((zmod x : Nat) : Int) ((zmod y : Nat) : Int) rfl rfl (by omega)) ?_; intro a ha
 refine scp ha (r_call ha [ei (((zmod x : Nat) : Int) - ((zmod y : Nat) : Int))] rfl Tryz.call94) rfl rfl rfl (c_mod (((zmod x : Nat) : Int) - ((zmod y : Nat) : Int)) _ ) ?_; intro w7 hg a ha
 replace hB := keepB0 hg hB
 refine s1 ha rfl (av rfl) ?_; intro a ha
 refine k4 _ _ ?_
 refine wp_ret ?_
 exact ret1 ha Tryz.results86 rfl ⟨rfl, hB⟩

theorem c_mul (x y : Int) (w0 : World) :
    Calls Tryz.prog 85 #[ei x, ei y] w0 fun e w' => e = .returned (en (zmul x y)) ∧ Below w0.heap.size w0 w' := by
 refine enter (args := [_, _]) Tryz.func85 rfl Tryz.ntmps85 rfl ?_
 intro a ha
 have hB := Below.refl w0.heap.size w0
 have hzp := zprod_le x y
 refine qr fun K1 k2 => ?_
 refine s1 ha rfl (av rfl) ?_; intro a ha
 refine k2 _ _ ?_
 refine qr fun K3 k4 => ?_
 refine s1 ha rfl (mv rfl) ?_; intro a ha
 refine scp ha (r_call ha [ei x] rfl Tryz.call94) rfl rfl rfl (c_mod x _ ) ?_; intro w5 hg a ha
 replace hB := keepB0 hg hB
 refine s1 ha rfl (mv rfl) ?_; intro a ha
 refine scp ha (r_call ha [ei y] rfl Tryz.call94) rfl rfl rfl (c_mod y _ ) ?_; intro w6 hg a ha
 replace hB := keepB0 hg hB
 refine s2 ha rfl (fun _ ha => rn_mul ha (zmod x) (zmod y) rfl rfl (by omega)) (fun _ ha => r_conv_n_u32w ha ((zmod x) * (zmod y)) Tryz.runUnderlying3 Tryz.runUnderlying111 rfl) ?_; intro a ha
 refine scp ha (r_call ha [e32 (UInt32.ofNat ((zmod x) * (zmod y)))] rfl Tryz.call116) rfl rfl rfl (c_barrett (UInt32.ofNat ((zmod x) * (zmod y))) _ ) ?_; intro w7 hg a ha
 replace hB := keepB0 hg hB
 refine s1 ha rfl (av rfl) ?_; intro a ha
 refine k4 _ _ ?_
 refine wp_ret ?_
 exact ret1 ha Tryz.results85 rfl ⟨(congrArg (fun n : Nat => Ending.returned (en n)) (mul_eq x y)), hB⟩

theorem c_comp (d : Nat) (x : Int) (w0 : World) (h1 : 1 ≤ d) (h2 : d ≤ 11) :
    Calls Tryz.prog 99 #[en d, ei x] w0 fun e w' => e = .returned (en (zcomp d x)) ∧ Below w0.heap.size w0 w' := by
 refine enter (args := [_, _]) Tryz.func99 rfl Tryz.ntmps99 rfl ?_
 intro a ha
 have hB := Below.refl w0.heap.size w0
 have hp := Nat.pow_le_pow_right (n := 2) (by decide) (show d + 1 ≤ 12 by omega)
 have hp2 := Nat.pow_le_pow_right (n := 2) (by decide) (show d ≤ 11 by omega)
 have hp3 : 1 ≤ 2 ^ d := Nat.one_le_two_pow
 have hx := zmod_lt x
 have hm := Nat.mul_le_mul (show zmod x ≤ 3328 by omega) hp
 refine qr fun K1 k2 => ?_
 refine s1 ha rfl (av rfl) ?_; intro a ha
 refine k2 _ _ ?_
 refine wp_seq_k fun K3 k4 => ?_
 refine qr fun K5 k6 => ?_
 refine s3 ha rfl (mv rfl) (fun _ ha => r_lss ha ((d : Nat) : Int) 1 false rfl rfl (decide_eq_false (by omega))) (mv rfl) ?_; intro a ha
 refine svg ha (r_move ha rfl) rfl rfl rfl rfl rfl ?_; intro a ha
 refine svg ha (r_gtr ha ((d : Nat) : Int) 11 false rfl rfl (decide_eq_false (by omega))) rfl rfl rfl rfl rfl ?_; intro a ha
 refine s1 ha rfl (fun _ ha => r_pick ha false rfl rfl) ?_; intro a ha
 refine k6 _ _ ?_
 refine cond_f ha rfl ?_
 refine wp_skip ?_
 refine k4 _ _ ?_
 refine qr fun K7 k8 => ?_
 refine s1 ha rfl (mv rfl) ?_; intro a ha
 refine scp ha (r_call ha [ei x] rfl Tryz.call94) rfl rfl rfl (c_mod x _ ) ?_; intro w9 hg a ha
 replace hB := keepB0 hg hB
 refine s6 ha rfl (mv rfl) (fun _ ha => rn_add ha d 1 rfl rfl (by omega)) (fun _ ha => r_conv_n_u64 ha (d + 1) Tryz.runUnderlying3 Tryz.runUnderlying40 rfl (by omega)) (fun _ ha => rn_shl ha (zmod x) (d + 1) rfl rfl (by omega) (by omega)) (fun _ ha => rn_add ha ((zmod x) * 2 ^ (d + 1)) 3329 rfl rfl (by omega)) (fun _ ha => rn_quo ha (((zmod x) * 2 ^ (d + 1)) + 3329) 6658 rfl rfl (by omega) (by omega)) ?_; intro a ha
 refine s6 ha rfl (mv rfl) (fun _ ha => r_conv_n_u64 ha d Tryz.runUnderlying3 Tryz.runUnderlying40 rfl (by omega)) (fun _ ha => rn_shl ha 1 d rfl rfl (by omega) (by omega)) (fun _ ha => rn_sub ha (1 * 2 ^ d) 1 rfl rfl (by omega) (by omega)) (fun _ ha => r_mask ha (((((zmod x) * 2 ^ (d + 1)) + 3329) / 6658 : Nat) : Int) d (by omega) (m := (1 * 2 ^ d) - 1) (by omega) rfl rfl) (av rfl) ?_; intro a ha
 refine k8 _ _ ?_
 refine wp_ret ?_
 exact ret1 ha Tryz.results99 rfl ⟨(congrArg (fun n : Nat => Ending.returned (en n)) (by rw [← Int.natCast_emod, Int.toNat_natCast]; rfl)), hB⟩

theorem c_compN (d x : Int) (w0 : World) (hd : d < 1 ∨ 11 < d) :
    Calls Tryz.prog 99 #[ei d, ei x] w0 fun e w' => e = .returned (en 0) ∧ Below w0.heap.size w0 w' := by
 refine enter (args := [_, _]) Tryz.func99 rfl Tryz.ntmps99 rfl ?_
 intro a ha
 have hB := Below.refl w0.heap.size w0
 refine qr fun K1 k2 => ?_
 refine s1 ha rfl (av rfl) ?_; intro a ha
 refine k2 _ _ ?_
 refine wp_seq_k fun K3 k4 => ?_
 refine qr fun K5 k6 => ?_
 refine s3 ha rfl (mv rfl) (fun _ ha => r_lss ha d 1 (decide (d < 1)) rfl rfl (decide_eq_decide.2 (by omega))) (mv rfl) ?_; intro a ha
 cases hq7 : (decide (d < 1))
 all_goals rw [hq7] at ha
 case false =>
  replace hq7 := of_decide_eq_false hq7
  refine svg ha (r_move ha rfl) rfl rfl rfl rfl rfl ?_; intro a ha
  refine svg ha (r_gtr ha d 11 true rfl rfl (decide_eq_true (by omega))) rfl rfl rfl rfl rfl ?_; intro a ha
  refine s1 ha rfl (fun _ ha => r_pick ha false rfl rfl) ?_; intro a ha
  refine k6 _ _ ?_
  refine cond_t ha rfl ?_
  refine qr fun K8 k9 => ?_
  refine s1 ha rfl (av rfl) ?_; intro a ha
  refine k9 _ _ ?_
  refine wp_ret (t_ret ?_)
  exact ret1 ha Tryz.results99 rfl ⟨rfl, hB⟩
 case true =>
  replace hq7 := of_decide_eq_true hq7
  refine sno ha rfl rfl rfl rfl rfl rfl ?_; intro a ha
  refine sno ha rfl rfl rfl rfl rfl rfl ?_; intro a ha
  refine s1 ha rfl (fun _ ha => r_pick ha true rfl rfl) ?_; intro a ha
  refine k6 _ _ ?_
  refine cond_t ha rfl ?_
  refine qr fun K10 k11 => ?_
  refine s1 ha rfl (av rfl) ?_; intro a ha
  refine k11 _ _ ?_
  refine wp_ret (t_ret ?_)
  exact ret1 ha Tryz.results99 rfl ⟨rfl, hB⟩

theorem c_compZ (d x : Int) (w0 : World) :
    Calls Tryz.prog 99 #[ei d, ei x] w0 fun e w' => e = .returned (en (zcompZ d x)) ∧ Below w0.heap.size w0 w' := by
  by_cases h : 1 ≤ d ∧ d ≤ 11
  · obtain ⟨n, rfl⟩ := Int.eq_ofNat_of_zero_le (show 0 ≤ d by omega)
    refine (c_comp n x w0 (by omega) (by omega)).mono fun e w h' => ?_
    rw [zcompZ, if_pos h]; exact h'
  · refine (c_compN d x w0 (by omega)).mono fun e w h' => ?_
    rw [zcompZ, if_neg h]; exact h'

theorem c_dec (d : Nat) (x : Int) (w0 : World) (h1 : 1 ≤ d) (h2 : d ≤ 11) :
    Calls Tryz.prog 98 #[en d, ei x] w0 fun e w' => e = .returned (en (zdec d x)) ∧ Below w0.heap.size w0 w' := by
 refine enter (args := [_, _]) Tryz.func98 rfl Tryz.ntmps98 rfl ?_
 intro a ha
 have hB := Below.refl w0.heap.size w0
 have hp := Nat.pow_le_pow_right (n := 2) (by decide) (show d + 1 ≤ 12 by omega)
 have hp2 := Nat.pow_le_pow_right (n := 2) (by decide) (show d ≤ 11 by omega)
 have hp3 : 1 ≤ 2 ^ d := Nat.one_le_two_pow
 have hr0 := Int.emod_nonneg x (show ((2 ^ d : Nat) : Int) ≠ 0 by omega)
 have hr1 := Int.emod_lt_of_pos x (show (0 : Int) < ((2 ^ d : Nat) : Int) by omega)
 refine qr fun K1 k2 => ?_
 refine s1 ha rfl (av rfl) ?_; intro a ha
 refine k2 _ _ ?_
 refine wp_seq_k fun K3 k4 => ?_
 refine qr fun K5 k6 => ?_
 refine s3 ha rfl (mv rfl) (fun _ ha => r_lss ha ((d : Nat) : Int) 1 false rfl rfl (decide_eq_false (by omega))) (mv rfl) ?_; intro a ha
 refine svg ha (r_move ha rfl) rfl rfl rfl rfl rfl ?_; intro a ha
 refine svg ha (r_gtr ha ((d : Nat) : Int) 11 false rfl rfl (decide_eq_false (by omega))) rfl rfl rfl rfl rfl ?_; intro a ha
 refine s1 ha rfl (fun _ ha => r_pick ha false rfl rfl) ?_; intro a ha
 refine k6 _ _ ?_
 refine cond_f ha rfl ?_
 refine wp_skip ?_
 refine k4 _ _ ?_
 refine qr fun K7 k8 => ?_
 refine s6 ha rfl (mv rfl) (mv rfl) (fun _ ha => r_conv_n_u64 ha d Tryz.runUnderlying3 Tryz.runUnderlying40 rfl (by omega)) (fun _ ha => rn_shl ha 1 d rfl rfl (by omega) (by omega)) (fun _ ha => rn_sub ha (1 * 2 ^ d) 1 rfl rfl (by omega) (by omega)) (fun _ ha => r_mask ha x d (by omega) (m := (1 * 2 ^ d) - 1) (by omega) rfl rfl) ?_; intro a ha
 refine s1 ha rfl (av rfl) ?_; intro a ha
 refine k8 _ _ ?_
 refine qr fun K9 k10 => ?_
 refine s6 ha rfl (mv rfl) (fun _ ha => rn_mul ha 6658 ((x % (2 ^ d : Nat)).toNat) rfl rfl (by omega)) (mv rfl) (fun _ ha => r_conv_n_u64 ha d Tryz.runUnderlying3 Tryz.runUnderlying40 rfl (by omega)) (fun _ ha => rn_shl ha 1 d rfl rfl (by omega) (by omega)) (fun _ ha => rn_add ha (6658 * ((x % (2 ^ d : Nat)).toNat)) (1 * 2 ^ d) rfl rfl (by omega)) ?_; intro a ha
 refine s5 ha rfl (mv rfl) (fun _ ha => rn_add ha d 1 rfl rfl (by omega)) (fun _ ha => r_conv_n_u64 ha (d + 1) Tryz.runUnderlying3 Tryz.runUnderlying40 rfl (by omega)) (fun _ ha => rn_shr ha ((6658 * ((x % (2 ^ d : Nat)).toNat)) + (1 * 2 ^ d)) (d + 1) rfl rfl (by omega)) (av rfl) ?_; intro a ha
 refine k10 _ _ ?_
 refine wp_ret ?_
 exact ret1 ha Tryz.results98 rfl ⟨(congrArg (fun n : Nat => Ending.returned (en n)) (by rw [Nat.one_mul, Nat.shiftRight_eq_div_pow]; rfl)), hB⟩

theorem c_decN (d x : Int) (w0 : World) (hd : d < 1 ∨ 11 < d) :
    Calls Tryz.prog 98 #[ei d, ei x] w0 fun e w' => e = .returned (en 0) ∧ Below w0.heap.size w0 w' := by
 refine enter (args := [_, _]) Tryz.func98 rfl Tryz.ntmps98 rfl ?_
 intro a ha
 have hB := Below.refl w0.heap.size w0
 refine qr fun K1 k2 => ?_
 refine s1 ha rfl (av rfl) ?_; intro a ha
 refine k2 _ _ ?_
 refine wp_seq_k fun K3 k4 => ?_
 refine qr fun K5 k6 => ?_
 refine s3 ha rfl (mv rfl) (fun _ ha => r_lss ha d 1 (decide (d < 1)) rfl rfl (decide_eq_decide.2 (by omega))) (mv rfl) ?_; intro a ha
 cases hq7 : (decide (d < 1))
 all_goals rw [hq7] at ha
 case false =>
  replace hq7 := of_decide_eq_false hq7
  refine svg ha (r_move ha rfl) rfl rfl rfl rfl rfl ?_; intro a ha
  refine svg ha (r_gtr ha d 11 true rfl rfl (decide_eq_true (by omega))) rfl rfl rfl rfl rfl ?_; intro a ha
  refine s1 ha rfl (fun _ ha => r_pick ha false rfl rfl) ?_; intro a ha
  refine k6 _ _ ?_
  refine cond_t ha rfl ?_
  refine qr fun K8 k9 => ?_
  refine s1 ha rfl (av rfl) ?_; intro a ha
  refine k9 _ _ ?_
  refine wp_ret (t_ret ?_)
  exact ret1 ha Tryz.results98 rfl ⟨rfl, hB⟩
 case true =>
  replace hq7 := of_decide_eq_true hq7
  refine sno ha rfl rfl rfl rfl rfl rfl ?_; intro a ha
  refine sno ha rfl rfl rfl rfl rfl rfl ?_; intro a ha
  refine s1 ha rfl (fun _ ha => r_pick ha true rfl rfl) ?_; intro a ha
  refine k6 _ _ ?_
  refine cond_t ha rfl ?_
  refine qr fun K10 k11 => ?_
  refine s1 ha rfl (av rfl) ?_; intro a ha
  refine k11 _ _ ?_
  refine wp_ret (t_ret ?_)
  exact ret1 ha Tryz.results98 rfl ⟨rfl, hB⟩

theorem c_decZ (d x : Int) (w0 : World) :
    Calls Tryz.prog 98 #[ei d, ei x] w0 fun e w' => e = .returned (en (zdecZ d x)) ∧ Below w0.heap.size w0 w' := by
  by_cases h : 1 ≤ d ∧ d ≤ 11
  · obtain ⟨n, rfl⟩ := Int.eq_ofNat_of_zero_le (show 0 ≤ d by omega)
    refine (c_dec n x w0 (by omega) (by omega)).mono fun e w h' => ?_
    rw [zdecZ, if_pos h]; exact h'
  · refine (c_decN d x w0 (by omega)).mono fun e w h' => ?_
    rw [zdecZ, if_neg h]; exact h'

theorem c_zeta (i : Int) (w0 : World) (hP : GlobP w0) :
    Calls Tryz.prog 84 #[ei i] w0 fun e w' => e = .returned (en (zz i 7)) ∧ Below w0.heap.size w0 w' := by
 refine enter (args := [_]) Tryz.func84 rfl Tryz.ntmps84 rfl ?_
 intro a ha
 have hB := Below.refl w0.heap.size w0
 refine qr fun K1 k2 => ?_
 refine s1 ha rfl (av rfl) ?_; intro a ha
 refine k2 _ _ ?_
 refine qr fun K3 k4 => ?_
 refine s1 ha rfl (av rfl) ?_; intro a ha
 refine k4 _ _ ?_
 refine wp_seq_k fun K5 k6 => ?_
 refine qr fun K7 k8 => ?_
 refine s2 ha rfl (fun _ ha => r_loadR ha rfl Tryz.isAgg109 Tryz.sizeOf109 (C := (powers).map en) rfl (cells_glob (glob_0 hP hB))) (mv rfl) ?_; intro a ha
 refine k8 _ _ ?_
 refine wp_block ?_
 refine loopG (fun (j : Nat) a w => (j ≤ 7) ∧ Has 22 [(0, ei i), (6, .agg ((powers).map en).toArray), (7, en j), (3, en (zz i j))] a ∧ Below w0.heap.size w0 w) (fun j => 7 - j) 0 ⟨(by omega), ha.to [0, 6, 7, 3] rfl, hB⟩ ?_
 clear ha a hB
 intro j a w9 ⟨hkj, ha, hB⟩
 refine qr fun K10 k11 => ?_
 refine s1 ha rfl (fun _ ha => r_lss ha ((j : Nat) : Int) 7 (decide (j < 7)) rfl rfl (decide_eq_decide.2 (by omega))) ?_; intro a ha
 refine k11 _ _ ?_
 refine wp_seq_k fun K12 k13 => ?_
 refine cond_if ha rfl (fun hc14 => ?_) (fun hc14 => ?_)
 ·skip
  replace hc14 := of_decide_eq_true hc14
  refine wp_skip ?_
  refine k13 _ _ ?_
  refine wp_seq_k fun K15 k16 => ?_
  refine wp_block ?_
  refine qr fun K17 k18 => ?_
  refine s4 ha rfl (mv rfl) (fun _ ha => r_index (C := (powers).map en) ha j rfl rfl Tryz.runUnderlying109 Tryz.sizeOf3 Tryz.isAgg3 (by omega) (get_map en powers 0 j (by rw [show List.length powers = 7 from rfl]; omega))) (av rfl) (av rfl) ?_; intro a ha
  refine k18 _ _ ?_
  refine qr fun K19 k20 => ?_
  refine s6 ha rfl (mv rfl) (mv rfl) (fun _ ha => r_conv_n_u64 ha j Tryz.runUnderlying3 Tryz.runUnderlying40 rfl (by omega)) (fun _ ha => r_shr ha i j rfl rfl (by omega)) (fun _ ha => r_mask ha (i / 2 ^ j) 1 (by omega) (m := 1) rfl rfl rfl) (fun _ ha => r_eql ha ((((i / 2 ^ j) % (2 ^ 1 : Nat)).toNat : Nat) : Int) 1 (decide (((i / 2 ^ j) % (2 ^ 1 : Nat)).toNat = 1)) rfl rfl (decide_eq_decide.2 (by omega))) ?_; intro a ha
  refine k20 _ _ ?_
  refine cond_if ha rfl (fun hc21 => ?_) (fun hc21 => ?_)
  ·skip
   replace hc21 := of_decide_eq_true hc21
   refine region ?_
   refine s2 ha rfl (mv rfl) (mv rfl) ?_; intro a ha
   refine scp ha (r_call ha [ei ((zz i j : Nat) : Int), ei ((powers.getD j 0 : Nat) : Int)] rfl Tryz.call85) rfl rfl rfl (c_mul ((zz i j : Nat) : Int) ((powers.getD j 0 : Nat) : Int) _ ) ?_; intro w22 hg a ha
   replace hB := keepB0 hg hB
   refine s1 ha rfl (av rfl) ?_; intro a ha
   refine k16 _ _ ?_
   refine region ?_
   refine s2 ha rfl (fun _ ha => rn_add ha j 1 rfl rfl (by omega)) (mv rfl) ?_; intro a ha
   exact ⟨j + 1, by omega, (by omega), ha.to [0, 6, 7, 3] (by simp only [zz]; first | (rw [if_pos (by assumption)]; rfl) | (rw [if_neg (by assumption)]; rfl)), hB⟩
  ·skip
   replace hc21 := of_decide_eq_false hc21
   refine wp_skip ?_
   refine k16 _ _ ?_
   refine region ?_
   refine s2 ha rfl (fun _ ha => rn_add ha j 1 rfl rfl (by omega)) (mv rfl) ?_; intro a ha
   exact ⟨j + 1, by omega, (by omega), ha.to [0, 6, 7, 3] (by simp only [zz]; first | (rw [if_pos (by assumption)]; rfl) | (rw [if_neg (by assumption)]; rfl)), hB⟩
 ·skip
  replace hc14 := of_decide_eq_false hc14
  refine wp_exit ?_
  obtain rfl : j = 7 := by omega
  refine k6 _ _ ?_
  refine qr fun K23 k24 => ?_
  refine s2 ha rfl (mv rfl) (av rfl) ?_; intro a ha
  refine k24 _ _ ?_
  refine wp_ret ?_
  exact ret1 ha Tryz.results84 rfl ⟨rfl, hB⟩

theorem c_rmod (x : Int) (w0 : World) :
    Calls Tryz.prog 81 #[ei x] w0 fun e w' => e = .returned (en (zmod x)) ∧ Below w0.heap.size w0 w' := by
 refine enter (args := [_]) Tryz.func81 rfl Tryz.ntmps81 rfl ?_
 intro a ha
 have hB := Below.refl w0.heap.size w0
 have htm := tm_emod x 3329 (by decide)
 have hzi := zmod_int x
 refine qr fun K1 k2 => ?_
 refine s1 ha rfl (av rfl) ?_; intro a ha
 refine k2 _ _ ?_
 refine qr fun K3 k4 => ?_
 refine s3 ha rfl (mv rfl) (fun _ ha => r_rem ha x 3329 rfl rfl (by omega)) (av rfl) ?_; intro a ha
 refine k4 _ _ ?_
 refine wp_seq_k fun K5 k6 => ?_
 refine qr fun K7 k8 => ?_
 refine s2 ha rfl (mv rfl) (fun _ ha => r_lss ha (x.tmod 3329) 0 (decide (x.tmod 3329 < 0)) rfl rfl (decide_eq_decide.2 (by omega))) ?_; intro a ha
 refine k8 _ _ ?_
 refine cond_if ha rfl (fun hc9 => ?_) (fun hc9 => ?_)
 ·skip
  replace hc9 := of_decide_eq_true hc9
  refine region ?_
  refine s3 ha rfl (mv rfl) (fun _ ha => n_of (r_add ha (x.tmod 3329) 3329 rfl rfl (by omega)) (k := zmod x) (by omega)) (av rfl) ?_; intro a ha
  refine k6 _ _ ?_
  refine qr fun K10 k11 => ?_
  refine s2 ha rfl (mv rfl) (av rfl) ?_; intro a ha
  refine k11 _ _ ?_
  refine wp_ret ?_
  exact ret1 ha Tryz.results81 rfl ⟨(by first | rfl | exact congrArg (fun z : Int => Ending.returned (ei z)) (by omega)), hB⟩
 ·skip
  replace hc9 := of_decide_eq_false hc9
  refine wp_skip ?_
  refine k6 _ _ ?_
  refine qr fun K12 k13 => ?_
  refine s2 ha rfl (mv rfl) (av rfl) ?_; intro a ha
  refine k13 _ _ ?_
  refine wp_ret ?_
  exact ret1 ha Tryz.results81 rfl ⟨(by first | rfl | exact congrArg (fun z : Int => Ending.returned (ei z)) (by omega)), hB⟩

theorem c_rpow (x : Int) (n : Nat) (w0 : World) :
    Calls Tryz.prog 100 #[ei x, en n] w0 fun e w' => e = .returned (en (rpow x n)) ∧ Below w0.heap.size w0 w' := by
 refine enter (args := [_, _]) Tryz.func100 rfl Tryz.ntmps100 rfl ?_
 intro a ha
 have hB := Below.refl w0.heap.size w0
 have hza := zmod_lt x
 refine qr fun K1 k2 => ?_
 refine s1 ha rfl (av rfl) ?_; intro a ha
 refine k2 _ _ ?_
 refine wp_seq_k fun K3 k4 => ?_
 refine qr fun K5 k6 => ?_
 refine s2 ha rfl (mv rfl) (fun _ ha => r_lss ha ((n : Nat) : Int) 0 false rfl rfl (decide_eq_false (by omega))) ?_; intro a ha
 refine k6 _ _ ?_
 refine cond_f ha rfl ?_
 refine wp_skip ?_
 refine k4 _ _ ?_
 refine qr fun K7 k8 => ?_
 refine s1 ha rfl (mv rfl) ?_; intro a ha
 refine scp ha (r_call ha [ei x] rfl Tryz.call81) rfl rfl rfl (c_rmod x _ ) ?_; intro w9 hg a ha
 replace hB := keepB0 hg hB
 refine s1 ha rfl (av rfl) ?_; intro a ha
 refine k8 _ _ ?_
 refine wp_seq_k fun K10 k11 => ?_
 refine qr fun K12 k13 => ?_
 refine s3 ha rfl (mv rfl) (fun _ ha => r_eql ha ((zmod x : Nat) : Int) 0 (decide (zmod x = 0)) rfl rfl (decide_eq_decide.2 (by omega))) (mv rfl) ?_; intro a ha
 cases hq14 : (decide (zmod x = 0))
 all_goals rw [hq14] at ha
 case false =>
  replace hq14 := of_decide_eq_false hq14
  refine sno ha rfl rfl rfl rfl rfl rfl ?_; intro a ha
  refine sno ha rfl rfl rfl rfl rfl rfl ?_; intro a ha
  refine s1 ha rfl (fun _ ha => r_pick ha false rfl rfl) ?_; intro a ha
  refine k13 _ _ ?_
  refine cond_f ha rfl ?_
  refine wp_skip ?_
  refine k11 _ _ ?_
  refine qr fun K15 k16 => ?_
  refine s1 ha rfl (av rfl) ?_; intro a ha
  refine k16 _ _ ?_
  refine wp_seq_k fun K17 k18 => ?_
  refine qr fun K19 k20 => ?_
  refine s1 ha rfl (av rfl) ?_; intro a ha
  refine k20 _ _ ?_
  refine wp_block ?_
  refine loopG (fun (i : Nat) a w => (i ≤ (n % 3328)) ∧ Has 28 [(1, en n), (0, en (zmod x)), (6, en i), (5, en (rp (zmod x) i))] a ∧ Below w0.heap.size w0 w) (fun i => (n % 3328) - i) 0 ⟨(by omega), ha.to [1, 0, 6, 5] rfl, hB⟩ ?_
  clear ha a hB
  intro i a w21 ⟨hki, ha, hB⟩
  have hrl := rp_lt (zmod x) i
  have hmm := Nat.mul_le_mul (show rp (zmod x) i ≤ 3328 by omega) (show zmod x ≤ 3328 by omega)
  refine wp_seq_k fun K22 k23 => ?_
  refine qr fun K24 k25 => ?_
  refine s4 ha rfl (mv rfl) (mv rfl) (fun _ ha => rn_rem ha n 3328 rfl rfl (by omega)) (fun _ ha => r_lss ha ((i : Nat) : Int) ((n % 3328 : Nat) : Int) (decide (i < n % 3328)) rfl rfl (decide_eq_decide.2 (by omega))) ?_; intro a ha
  refine k25 _ _ ?_
  refine cond_if ha rfl (fun hc26 => ?_) (fun hc26 => ?_)
  ·skip
   replace hc26 := of_decide_eq_true hc26
   refine wp_skip ?_
   refine k23 _ _ ?_
   refine wp_seq_k fun K27 k28 => ?_
   refine wp_block ?_
   refine region ?_
   refine s5 ha rfl (mv rfl) (mv rfl) (fun _ ha => rn_mul ha (rp (zmod x) i) (zmod x) rfl rfl (by omega)) (fun _ ha => rn_rem ha ((rp (zmod x) i) * (zmod x)) 3329 rfl rfl (by omega)) (av rfl) ?_; intro a ha
   refine k28 _ _ ?_
   refine region ?_
   refine s3 ha rfl (mv rfl) (fun _ ha => rn_add ha i 1 rfl rfl (by omega)) (av rfl) ?_; intro a ha
   exact ⟨i + 1, by omega, (by omega), ha.to [1, 0, 6, 5] rfl, hB⟩
  ·skip
   replace hc26 := of_decide_eq_false hc26
   refine wp_exit ?_
   obtain rfl : i = (n % 3328) := by omega
   refine k18 _ _ ?_
   refine qr fun K29 k30 => ?_
   refine s2 ha rfl (mv rfl) (av rfl) ?_; intro a ha
   refine k30 _ _ ?_
   refine wp_ret ?_
   exact ret1 ha Tryz.results100 rfl ⟨(by unfold rpow; first | (rw [if_pos ⟨by omega, by omega⟩]; done) | (rw [if_pos ⟨by omega, by omega⟩]; rfl) | (rw [if_neg (by omega)]; done) | (rw [if_neg (by omega)]; rfl)), hB⟩
 case true =>
  replace hq14 := of_decide_eq_true hq14
  refine svg ha (r_move ha rfl) rfl rfl rfl rfl rfl ?_; intro a ha
  refine svg ha (r_gtr ha ((n : Nat) : Int) 0 (decide (n > 0)) rfl rfl (decide_eq_decide.2 (by omega))) rfl rfl rfl rfl rfl ?_; intro a ha
  refine s1 ha rfl (fun _ ha => r_pick ha true rfl rfl) ?_; intro a ha
  refine k13 _ _ ?_
  refine cond_if ha rfl (fun hc31 => ?_) (fun hc31 => ?_)
  ·skip
   replace hc31 := of_decide_eq_true hc31
   refine qr fun K32 k33 => ?_
   refine s1 ha rfl (av rfl) ?_; intro a ha
   refine k33 _ _ ?_
   refine wp_ret (t_ret ?_)
   exact ret1 ha Tryz.results100 rfl ⟨(by unfold rpow; first | (rw [if_pos ⟨by omega, by omega⟩]; done) | (rw [if_pos ⟨by omega, by omega⟩]; rfl) | (rw [if_neg (by omega)]; done) | (rw [if_neg (by omega)]; rfl)), hB⟩
  ·skip
   replace hc31 := of_decide_eq_false hc31
   refine wp_skip ?_
   refine k11 _ _ ?_
   refine qr fun K34 k35 => ?_
   refine s1 ha rfl (av rfl) ?_; intro a ha
   refine k35 _ _ ?_
   refine wp_seq_k fun K36 k37 => ?_
   refine qr fun K38 k39 => ?_
   refine s1 ha rfl (av rfl) ?_; intro a ha
   refine k39 _ _ ?_
   refine wp_block ?_
   refine loopG (fun (i : Nat) a w => (i ≤ (n % 3328)) ∧ Has 28 [(1, en n), (0, en (zmod x)), (6, en i), (5, en (rp (zmod x) i))] a ∧ Below w0.heap.size w0 w) (fun i => (n % 3328) - i) 0 ⟨(by omega), ha.to [1, 0, 6, 5] rfl, hB⟩ ?_
   clear ha a hB
   intro i a w40 ⟨hki, ha, hB⟩
   have hrl := rp_lt (zmod x) i
   have hmm := Nat.mul_le_mul (show rp (zmod x) i ≤ 3328 by omega) (show zmod x ≤ 3328 by omega)
   refine wp_seq_k fun K41 k42 => ?_
   refine qr fun K43 k44 => ?_
   refine s4 ha rfl (mv rfl) (mv rfl) (fun _ ha => rn_rem ha n 3328 rfl rfl (by omega)) (fun _ ha => r_lss ha ((i : Nat) : Int) ((n % 3328 : Nat) : Int) (decide (i < n % 3328)) rfl rfl (decide_eq_decide.2 (by omega))) ?_; intro a ha
   refine k44 _ _ ?_
   refine cond_if ha rfl (fun hc45 => ?_) (fun hc45 => ?_)
   ·skip
    replace hc45 := of_decide_eq_true hc45
    refine wp_skip ?_
    refine k42 _ _ ?_
    refine wp_seq_k fun K46 k47 => ?_
    refine wp_block ?_
    refine region ?_
    refine s5 ha rfl (mv rfl) (mv rfl) (fun _ ha => rn_mul ha (rp (zmod x) i) (zmod x) rfl rfl (by omega)) (fun _ ha => rn_rem ha ((rp (zmod x) i) * (zmod x)) 3329 rfl rfl (by omega)) (av rfl) ?_; intro a ha
    refine k47 _ _ ?_
    refine region ?_
    refine s3 ha rfl (mv rfl) (fun _ ha => rn_add ha i 1 rfl rfl (by omega)) (av rfl) ?_; intro a ha
    exact ⟨i + 1, by omega, (by omega), ha.to [1, 0, 6, 5] rfl, hB⟩
   ·skip
    replace hc45 := of_decide_eq_false hc45
    refine wp_exit ?_
    obtain rfl : i = (n % 3328) := by omega
    refine k37 _ _ ?_
    refine qr fun K48 k49 => ?_
    refine s2 ha rfl (mv rfl) (av rfl) ?_; intro a ha
    refine k49 _ _ ?_
    refine wp_ret ?_
    exact ret1 ha Tryz.results100 rfl ⟨(by unfold rpow; first | (rw [if_pos ⟨by omega, by omega⟩]; done) | (rw [if_pos ⟨by omega, by omega⟩]; rfl) | (rw [if_neg (by omega)]; done) | (rw [if_neg (by omega)]; rfl)), hB⟩

theorem c_two (d : Nat) (w0 : World) (hd : d ≤ 60) :
    Calls Tryz.prog 119 #[en d] w0 fun e w' => e = .returned (en (2 ^ d)) ∧ Below w0.heap.size w0 w' := by
 refine enter (args := [_]) Tryz.func119 rfl Tryz.ntmps119 rfl ?_
 intro a ha
 have hB := Below.refl w0.heap.size w0
 refine qr fun K1 k2 => ?_
 refine s1 ha rfl (av rfl) ?_; intro a ha
 refine k2 _ _ ?_
 refine qr fun K3 k4 => ?_
 refine s1 ha rfl (av rfl) ?_; intro a ha
 refine k4 _ _ ?_
 refine wp_seq_k fun K5 k6 => ?_
 refine qr fun K7 k8 => ?_
 refine s1 ha rfl (av rfl) ?_; intro a ha
 refine k8 _ _ ?_
 refine wp_block ?_
 refine loopG (fun (i : Nat) a w => (i ≤ d) ∧ Has 13 [(0, en d), (4, en i), (3, en (2 ^ i))] a ∧ Below w0.heap.size w0 w) (fun i => d - i) 0 ⟨(by omega), ha.to [0, 4, 3] rfl, hB⟩ ?_
 clear ha a hB
 intro i a w9 ⟨hki, ha, hB⟩
 have hp := Nat.pow_le_pow_right (n := 2) (by decide) (show i ≤ 60 by omega)
 refine wp_seq_k fun K10 k11 => ?_
 refine qr fun K12 k13 => ?_
 refine s3 ha rfl (mv rfl) (mv rfl) (fun _ ha => r_lss ha ((i : Nat) : Int) ((d : Nat) : Int) (decide (i < d)) rfl rfl (decide_eq_decide.2 (by omega))) ?_; intro a ha
 refine k13 _ _ ?_
 refine cond_if ha rfl (fun hc14 => ?_) (fun hc14 => ?_)
 ·skip
  replace hc14 := of_decide_eq_true hc14
  refine wp_skip ?_
  refine k11 _ _ ?_
  refine wp_seq_k fun K15 k16 => ?_
  refine wp_block ?_
  refine region ?_
  refine s3 ha rfl (mv rfl) (fun _ ha => rn_mul ha (2 ^ i) 2 rfl rfl (by omega)) (av rfl) ?_; intro a ha
  refine k16 _ _ ?_
  refine region ?_
  refine s3 ha rfl (mv rfl) (fun _ ha => rn_add ha i 1 rfl rfl (by omega)) (av rfl) ?_; intro a ha
  exact ⟨i + 1, by omega, (by omega), ha.to [0, 4, 3] rfl, hB⟩
 ·skip
  replace hc14 := of_decide_eq_false hc14
  refine wp_exit ?_
  obtain rfl : d = i := by omega
  refine k6 _ _ ?_
  refine qr fun K17 k18 => ?_
  refine s2 ha rfl (mv rfl) (av rfl) ?_; intro a ha
  refine k18 _ _ ?_
  refine wp_ret ?_
  exact ret1 ha Tryz.results119 rfl ⟨rfl, hB⟩

theorem c_rcomp (d : Nat) (x : Int) (w0 : World) (h1 : 1 ≤ d) (h2 : d ≤ 11) :
    Calls Tryz.prog 101 #[en d, ei x] w0 fun e w' => e = .returned (en (zcomp d x)) ∧ Below w0.heap.size w0 w' := by
 refine enter (args := [_, _]) Tryz.func101 rfl Tryz.ntmps101 rfl ?_
 intro a ha
 have hB := Below.refl w0.heap.size w0
 have hp := Nat.pow_le_pow_right (n := 2) (by decide) (show d + 1 ≤ 12 by omega)
 have hp2 := Nat.pow_le_pow_right (n := 2) (by decide) (show d ≤ 11 by omega)
 have hp3 : 1 ≤ 2 ^ d := Nat.one_le_two_pow
 have hx := zmod_lt x
 have hm := Nat.mul_le_mul (show zmod x ≤ 3328 by omega) hp
 rw [Nat.mul_comm] at hm
 refine qr fun K1 k2 => ?_
 refine s1 ha rfl (av rfl) ?_; intro a ha
 refine k2 _ _ ?_
 refine wp_seq_k fun K3 k4 => ?_
 refine qr fun K5 k6 => ?_
 refine s3 ha rfl (mv rfl) (fun _ ha => r_lss ha ((d : Nat) : Int) 1 false rfl rfl (decide_eq_false (by omega))) (mv rfl) ?_; intro a ha
 refine svg ha (r_move ha rfl) rfl rfl rfl rfl rfl ?_; intro a ha
 refine svg ha (r_gtr ha ((d : Nat) : Int) 11 false rfl rfl (decide_eq_false (by omega))) rfl rfl rfl rfl rfl ?_; intro a ha
 refine s1 ha rfl (fun _ ha => r_pick ha false rfl rfl) ?_; intro a ha
 refine k6 _ _ ?_
 refine cond_f ha rfl ?_
 refine wp_skip ?_
 refine k4 _ _ ?_
 refine qr fun K7 k8 => ?_
 refine s2 ha rfl (mv rfl) (fun _ ha => rn_add ha d 1 rfl rfl (by omega)) ?_; intro a ha
 refine scp ha (r_call ha [en (d + 1)] rfl Tryz.call119) rfl rfl rfl (c_two (d + 1) _ (by omega)) ?_; intro w9 hg a ha
 replace hB := keepB0 hg hB
 refine s1 ha rfl (mv rfl) ?_; intro a ha
 refine scp ha (r_call ha [ei x] rfl Tryz.call81) rfl rfl rfl (c_rmod x _ ) ?_; intro w10 hg a ha
 replace hB := keepB0 hg hB
 refine s4 ha rfl (fun _ ha => rn_mul ha (2 ^ (d + 1)) (zmod x) rfl rfl (by omega)) (fun _ ha => rn_add ha ((2 ^ (d + 1)) * (zmod x)) 3329 rfl rfl (by omega)) (fun _ ha => rn_quo ha (((2 ^ (d + 1)) * (zmod x)) + 3329) 6658 rfl rfl (by omega) (by omega)) (mv rfl) ?_; intro a ha
 refine scp ha (r_call ha [en d] rfl Tryz.call119) rfl rfl rfl (c_two d _ (by omega)) ?_; intro w11 hg a ha
 replace hB := keepB0 hg hB
 refine s2 ha rfl (fun _ ha => rn_rem ha ((((2 ^ (d + 1)) * (zmod x)) + 3329) / 6658) (2 ^ d) rfl rfl (by omega)) (av rfl) ?_; intro a ha
 refine k8 _ _ ?_
 refine wp_ret ?_
 exact ret1 ha Tryz.results101 rfl ⟨(congrArg (fun n : Nat => Ending.returned (en n)) (by rw [Nat.mul_comm (2 ^ (d + 1))]; rfl)), hB⟩

theorem c_rcompN (d x : Int) (w0 : World) (hd : d < 1 ∨ 11 < d) :
    Calls Tryz.prog 101 #[ei d, ei x] w0 fun e w' => e = .returned (en 0) ∧ Below w0.heap.size w0 w' := by
 refine enter (args := [_, _]) Tryz.func101 rfl Tryz.ntmps101 rfl ?_
 intro a ha
 have hB := Below.refl w0.heap.size w0
 refine qr fun K1 k2 => ?_
 refine s1 ha rfl (av rfl) ?_; intro a ha
 refine k2 _ _ ?_
 refine wp_seq_k fun K3 k4 => ?_
 refine qr fun K5 k6 => ?_
 refine s3 ha rfl (mv rfl) (fun _ ha => r_lss ha d 1 (decide (d < 1)) rfl rfl (decide_eq_decide.2 (by omega))) (mv rfl) ?_; intro a ha
 cases hq7 : (decide (d < 1))
 all_goals rw [hq7] at ha
 case false =>
  replace hq7 := of_decide_eq_false hq7
  refine svg ha (r_move ha rfl) rfl rfl rfl rfl rfl ?_; intro a ha
  refine svg ha (r_gtr ha d 11 true rfl rfl (decide_eq_true (by omega))) rfl rfl rfl rfl rfl ?_; intro a ha
  refine s1 ha rfl (fun _ ha => r_pick ha false rfl rfl) ?_; intro a ha
  refine k6 _ _ ?_
  refine cond_t ha rfl ?_
  refine qr fun K8 k9 => ?_
  refine s1 ha rfl (av rfl) ?_; intro a ha
  refine k9 _ _ ?_
  refine wp_ret (t_ret ?_)
  exact ret1 ha Tryz.results101 rfl ⟨rfl, hB⟩
 case true =>
  replace hq7 := of_decide_eq_true hq7
  refine sno ha rfl rfl rfl rfl rfl rfl ?_; intro a ha
  refine sno ha rfl rfl rfl rfl rfl rfl ?_; intro a ha
  refine s1 ha rfl (fun _ ha => r_pick ha true rfl rfl) ?_; intro a ha
  refine k6 _ _ ?_
  refine cond_t ha rfl ?_
  refine qr fun K10 k11 => ?_
  refine s1 ha rfl (av rfl) ?_; intro a ha
  refine k11 _ _ ?_
  refine wp_ret (t_ret ?_)
  exact ret1 ha Tryz.results101 rfl ⟨rfl, hB⟩

theorem c_rcompZ (d x : Int) (w0 : World) :
    Calls Tryz.prog 101 #[ei d, ei x] w0 fun e w' => e = .returned (en (zcompZ d x)) ∧ Below w0.heap.size w0 w' := by
  by_cases h : 1 ≤ d ∧ d ≤ 11
  · obtain ⟨n, rfl⟩ := Int.eq_ofNat_of_zero_le (show 0 ≤ d by omega)
    refine (c_rcomp n x w0 (by omega) (by omega)).mono fun e w h' => ?_
    rw [zcompZ, if_pos h]; exact h'
  · refine (c_rcompN d x w0 (by omega)).mono fun e w h' => ?_
    rw [zcompZ, if_neg h]; exact h'

theorem c_rdec (d : Nat) (x : Int) (w0 : World) (h1 : 1 ≤ d) (h2 : d ≤ 11) :
    Calls Tryz.prog 102 #[en d, ei x] w0 fun e w' => e = .returned (en (zdec d x)) ∧ Below w0.heap.size w0 w' := by
 refine enter (args := [_, _]) Tryz.func102 rfl Tryz.ntmps102 rfl ?_
 intro a ha
 have hB := Below.refl w0.heap.size w0
 have hp := Nat.pow_le_pow_right (n := 2) (by decide) (show d + 1 ≤ 12 by omega)
 have hp2 := Nat.pow_le_pow_right (n := 2) (by decide) (show d ≤ 11 by omega)
 have hp3 : 1 ≤ 2 ^ d := Nat.one_le_two_pow
 have hr0 := Int.emod_nonneg x (show ((2 ^ d : Nat) : Int) ≠ 0 by omega)
 have hr1 := Int.emod_lt_of_pos x (show (0 : Int) < ((2 ^ d : Nat) : Int) by omega)
 have htm := tm_emod x ((2 ^ d : Nat) : Int) (by omega)
 refine qr fun K1 k2 => ?_
 refine s1 ha rfl (av rfl) ?_; intro a ha
 refine k2 _ _ ?_
 refine wp_seq_k fun K3 k4 => ?_
 refine qr fun K5 k6 => ?_
 refine s3 ha rfl (mv rfl) (fun _ ha => r_lss ha ((d : Nat) : Int) 1 false rfl rfl (decide_eq_false (by omega))) (mv rfl) ?_; intro a ha
 refine svg ha (r_move ha rfl) rfl rfl rfl rfl rfl ?_; intro a ha
 refine svg ha (r_gtr ha ((d : Nat) : Int) 11 false rfl rfl (decide_eq_false (by omega))) rfl rfl rfl rfl rfl ?_; intro a ha
 refine s1 ha rfl (fun _ ha => r_pick ha false rfl rfl) ?_; intro a ha
 refine k6 _ _ ?_
 refine cond_f ha rfl ?_
 refine wp_skip ?_
 refine k4 _ _ ?_
 refine qr fun K7 k8 => ?_
 refine s2 ha rfl (mv rfl) (mv rfl) ?_; intro a ha
 refine scp ha (r_call ha [en d] rfl Tryz.call119) rfl rfl rfl (c_two d _ (by omega)) ?_; intro w9 hg a ha
 replace hB := keepB0 hg hB
 refine s2 ha rfl (fun _ ha => r_rem ha x ((2 ^ d : Nat) : Int) rfl rfl (by omega)) (av rfl) ?_; intro a ha
 refine k8 _ _ ?_
 refine wp_seq_k fun K10 k11 => ?_
 refine qr fun K12 k13 => ?_
 refine s2 ha rfl (mv rfl) (fun _ ha => r_lss ha (x.tmod ((2 ^ d : Nat) : Int)) 0 (decide (x.tmod ((2 ^ d : Nat) : Int) < 0)) rfl rfl (decide_eq_decide.2 (by omega))) ?_; intro a ha
 refine k13 _ _ ?_
 refine cond_if ha rfl (fun hc14 => ?_) (fun hc14 => ?_)
 ·skip
  replace hc14 := of_decide_eq_true hc14
  refine region ?_
  refine s2 ha rfl (mv rfl) (mv rfl) ?_; intro a ha
  refine scp ha (r_call ha [en d] rfl Tryz.call119) rfl rfl rfl (c_two d _ (by omega)) ?_; intro w15 hg a ha
  replace hB := keepB0 hg hB
  refine s2 ha rfl (fun _ ha => n_of (r_add ha (x.tmod ((2 ^ d : Nat) : Int)) ((2 ^ d : Nat) : Int) rfl rfl (by omega)) (k := (x % (2 ^ d : Nat)).toNat) (by omega)) (av rfl) ?_; intro a ha
  refine k11 _ _ ?_
  refine qr fun K16 k17 => ?_
  refine s3 ha rfl (mv rfl) (fun _ ha => rn_mul ha 6658 ((x % (2 ^ d : Nat)).toNat) rfl rfl (by omega)) (mv rfl) ?_; intro a ha
  refine scp ha (r_call ha [en d] rfl Tryz.call119) rfl rfl rfl (c_two d _ (by omega)) ?_; intro w18 hg a ha
  replace hB := keepB0 hg hB
  refine s3 ha rfl (fun _ ha => rn_add ha (6658 * ((x % (2 ^ d : Nat)).toNat)) (2 ^ d) rfl rfl (by omega)) (mv rfl) (fun _ ha => rn_add ha d 1 rfl rfl (by omega)) ?_; intro a ha
  refine scp ha (r_call ha [en (d + 1)] rfl Tryz.call119) rfl rfl rfl (c_two (d + 1) _ (by omega)) ?_; intro w19 hg a ha
  replace hB := keepB0 hg hB
  refine s2 ha rfl (fun _ ha => rn_quo ha ((6658 * ((x % (2 ^ d : Nat)).toNat)) + (2 ^ d)) (2 ^ (d + 1)) rfl rfl (by omega) (by omega)) (av rfl) ?_; intro a ha
  refine k17 _ _ ?_
  refine wp_ret ?_
  exact ret1 ha Tryz.results102 rfl ⟨rfl, hB⟩
 ·skip
  replace hc14 := of_decide_eq_false hc14
  refine wp_skip ?_
  refine k11 _ _ ?_
  refine qr fun K20 k21 => ?_
  refine s3 ha rfl (mv rfl) (fun _ ha => n_of (r_mul ha 6658 (x.tmod ((2 ^ d : Nat) : Int)) rfl rfl (by omega)) (k := 6658 * (x % (2 ^ d : Nat)).toNat) (by omega)) (mv rfl) ?_; intro a ha
  refine scp ha (r_call ha [en d] rfl Tryz.call119) rfl rfl rfl (c_two d _ (by omega)) ?_; intro w22 hg a ha
  replace hB := keepB0 hg hB
  refine s3 ha rfl (fun _ ha => rn_add ha (6658 * (x % (2 ^ d : Nat)).toNat) (2 ^ d) rfl rfl (by omega)) (mv rfl) (fun _ ha => rn_add ha d 1 rfl rfl (by omega)) ?_; intro a ha
  refine scp ha (r_call ha [en (d + 1)] rfl Tryz.call119) rfl rfl rfl (c_two (d + 1) _ (by omega)) ?_; intro w23 hg a ha
  replace hB := keepB0 hg hB
  refine s2 ha rfl (fun _ ha => rn_quo ha ((6658 * (x % (2 ^ d : Nat)).toNat) + (2 ^ d)) (2 ^ (d + 1)) rfl rfl (by omega) (by omega)) (av rfl) ?_; intro a ha
  refine k21 _ _ ?_
  refine wp_ret ?_
  exact ret1 ha Tryz.results102 rfl ⟨rfl, hB⟩

theorem c_rdecN (d x : Int) (w0 : World) (hd : d < 1 ∨ 11 < d) :
    Calls Tryz.prog 102 #[ei d, ei x] w0 fun e w' => e = .returned (en 0) ∧ Below w0.heap.size w0 w' := by
 refine enter (args := [_, _]) Tryz.func102 rfl Tryz.ntmps102 rfl ?_
 intro a ha
 have hB := Below.refl w0.heap.size w0
 refine qr fun K1 k2 => ?_
 refine s1 ha rfl (av rfl) ?_; intro a ha
 refine k2 _ _ ?_
 refine wp_seq_k fun K3 k4 => ?_
 refine qr fun K5 k6 => ?_
 refine s3 ha rfl (mv rfl) (fun _ ha => r_lss ha d 1 (decide (d < 1)) rfl rfl (decide_eq_decide.2 (by omega))) (mv rfl) ?_; intro a ha
 cases hq7 : (decide (d < 1))
 all_goals rw [hq7] at ha
 case false =>
  replace hq7 := of_decide_eq_false hq7
  refine svg ha (r_move ha rfl) rfl rfl rfl rfl rfl ?_; intro a ha
  refine svg ha (r_gtr ha d 11 true rfl rfl (decide_eq_true (by omega))) rfl rfl rfl rfl rfl ?_; intro a ha
  refine s1 ha rfl (fun _ ha => r_pick ha false rfl rfl) ?_; intro a ha
  refine k6 _ _ ?_
  refine cond_t ha rfl ?_
  refine qr fun K8 k9 => ?_
  refine s1 ha rfl (av rfl) ?_; intro a ha
  refine k9 _ _ ?_
  refine wp_ret (t_ret ?_)
  exact ret1 ha Tryz.results102 rfl ⟨rfl, hB⟩
 case true =>
  replace hq7 := of_decide_eq_true hq7
  refine sno ha rfl rfl rfl rfl rfl rfl ?_; intro a ha
  refine sno ha rfl rfl rfl rfl rfl rfl ?_; intro a ha
  refine s1 ha rfl (fun _ ha => r_pick ha true rfl rfl) ?_; intro a ha
  refine k6 _ _ ?_
  refine cond_t ha rfl ?_
  refine qr fun K10 k11 => ?_
  refine s1 ha rfl (av rfl) ?_; intro a ha
  refine k11 _ _ ?_
  refine wp_ret (t_ret ?_)
  exact ret1 ha Tryz.results102 rfl ⟨rfl, hB⟩

theorem c_rdecZ (d x : Int) (w0 : World) :
    Calls Tryz.prog 102 #[ei d, ei x] w0 fun e w' => e = .returned (en (zdecZ d x)) ∧ Below w0.heap.size w0 w' := by
  by_cases h : 1 ≤ d ∧ d ≤ 11
  · obtain ⟨n, rfl⟩ := Int.eq_ofNat_of_zero_le (show 0 ≤ d by omega)
    refine (c_rdec n x w0 (by omega) (by omega)).mono fun e w h' => ?_
    rw [zdecZ, if_pos h]; exact h'
  · refine (c_rdecN d x w0 (by omega)).mono fun e w h' => ?_
    rw [zdecZ, if_neg h]; exact h'

theorem c_turned (i : Int) (w0 : World) :
    Calls Tryz.prog 113 #[ei i] w0 fun e w' => e = .returned (en (turned i)) ∧ Below w0.heap.size w0 w' := by
 refine enter (args := [_]) Tryz.func113 rfl Tryz.ntmps113 rfl ?_
 intro a ha
 have hB := Below.refl w0.heap.size w0
 refine qr fun K1 k2 => ?_
 refine s1 ha rfl (av rfl) ?_; intro a ha
 refine k2 _ _ ?_
 refine qr fun K3 k4 => ?_
 refine s3 ha rfl (mv rfl) (fun _ ha => r_mask ha i 7 (by omega) (m := 127) rfl rfl rfl) (av rfl) ?_; intro a ha
 refine k4 _ _ ?_
 refine qr fun K5 k6 => ?_
 refine s1 ha rfl (av rfl) ?_; intro a ha
 refine k6 _ _ ?_
 refine wp_seq_k fun K7 k8 => ?_
 refine qr fun K9 k10 => ?_
 refine s1 ha rfl (av rfl) ?_; intro a ha
 refine k10 _ _ ?_
 refine wp_block ?_
 refine loopG (fun (j : Nat) a w => (j ≤ 7) ∧ Has 19 [(4, en j), (0, en (tu0 i j)), (3, en (tuN i j))] a ∧ Below w0.heap.size w0 w) (fun j => 7 - j) 0 ⟨(by omega), ha.to [4, 0, 3] rfl, hB⟩ ?_
 clear ha a hB
 intro j a w11 ⟨hkj, ha, hB⟩
 have htl := tuN_le i j
 have hp := Nat.pow_le_pow_right (n := 2) (by decide) (show j ≤ 7 by omega)
 have htu := tu0_le i j
 refine wp_seq_k fun K12 k13 => ?_
 refine qr fun K14 k15 => ?_
 refine s2 ha rfl (mv rfl) (fun _ ha => r_lss ha ((j : Nat) : Int) 7 (decide (j < 7)) rfl rfl (decide_eq_decide.2 (by omega))) ?_; intro a ha
 refine k15 _ _ ?_
 refine cond_if ha rfl (fun hc16 => ?_) (fun hc16 => ?_)
 ·skip
  replace hc16 := of_decide_eq_true hc16
  refine wp_skip ?_
  refine k13 _ _ ?_
  refine wp_seq_k fun K17 k18 => ?_
  refine wp_block ?_
  refine qr fun K19 k20 => ?_
  refine s6 ha rfl (mv rfl) (fun _ ha => rn_mul ha (tuN i j) 2 rfl rfl (by omega)) (mv rfl) (fun _ ha => rn_rem ha (tu0 i j) 2 rfl rfl (by omega)) (fun _ ha => rn_add ha ((tuN i j) * 2) ((tu0 i j) % 2) rfl rfl (by omega)) (av rfl) ?_; intro a ha
  refine k20 _ _ ?_
  refine region ?_
  refine s3 ha rfl (mv rfl) (fun _ ha => rn_quo ha (tu0 i j) 2 rfl rfl (by omega) (by omega)) (av rfl) ?_; intro a ha
  refine k18 _ _ ?_
  refine region ?_
  refine s3 ha rfl (mv rfl) (fun _ ha => rn_add ha j 1 rfl rfl (by omega)) (av rfl) ?_; intro a ha
  exact ⟨j + 1, by omega, (by omega), ha.to [4, 0, 3] rfl, hB⟩
 ·skip
  replace hc16 := of_decide_eq_false hc16
  refine wp_exit ?_
  obtain rfl : j = 7 := by omega
  refine k8 _ _ ?_
  refine qr fun K21 k22 => ?_
  refine s2 ha rfl (mv rfl) (av rfl) ?_; intro a ha
  refine k22 _ _ ?_
  refine wp_ret ?_
  exact ret1 ha Tryz.results113 rfl ⟨rfl, hB⟩
end Go.Proofs.YtaignhikdfpbbaaGreatDoor

/- Sums, layers of butterflies, and the ring of pairs: over any commutative ring. No program and no memory here. -/
namespace Go.Rx.Na

section
abbrev R := Fin 3329
theorem pwZ (a : R) : a ^ 0 = 1 := rfl
theorem pwS (a : R) (n : Nat) : a ^ (n + 1) = a ^ n * a := rfl
theorem pwA (a : R) (m n : Nat) : a ^ (m + n) = a ^ m * a ^ n := by grind

def sm (f : Nat → R) : Nat → R
  | 0 => 0
  | n + 1 => sm f n + f n
theorem sm_congr {f g : Nat → R} : ∀ n, (∀ i, i < n → f i = g i) → sm f n = sm g n
  | 0, _ => rfl
  | n + 1, h => by rw [sm, sm, sm_congr n (fun i hi => h i (by omega)), h n (by omega)]
theorem sm_add (f g : Nat → R) : ∀ n, sm (fun i => f i + g i) n = sm f n + sm g n
  | 0 => by simp only [sm]; grind
  | n + 1 => by simp only [sm]; rw [sm_add f g n]; grind
theorem sm_mul (c : R) (f : Nat → R) : ∀ n, sm (fun i => c * f i) n = c * sm f n
  | 0 => by simp only [sm]; grind
  | n + 1 => by simp only [sm]; rw [sm_mul c f n]; grind
theorem sm_zero : ∀ n, sm (fun _ => (0 : R)) n = 0
  | 0 => rfl
  | n + 1 => by simp only [sm]; rw [sm_zero n]; grind
theorem sm_left (f : Nat → R) : ∀ n, sm f (n + 1) = f 0 + sm (fun i => f (i + 1)) n
  | 0 => by simp only [sm]; grind
  | n + 1 => by rw [sm, sm_left f n, sm]; grind
theorem sm_pair (f : Nat → R) : ∀ n, sm f (2 * n) = sm (fun q => f (2 * q) + f (2 * q + 1)) n
  | 0 => rfl
  | n + 1 => by
    rw [show 2 * (n + 1) = 2 * n + 1 + 1 by omega, sm, sm, sm_pair f n, sm]; grind
theorem sm_one (f : Nat → R) (k : Nat) : ∀ n, (∀ i, i < n → i ≠ k → f i = 0) → sm f n = if k < n then f k else 0
  | 0, _ => by rw [if_neg (by omega)]; rfl
  | n + 1, h => by
    rw [sm, sm_one f k n (fun i hi hk => h i (by omega) hk)]
    by_cases e : n = k
    · subst e; rw [if_neg (by omega), if_pos (by omega)]; grind
    · rw [h n (by omega) e]
      by_cases hk : k < n
      · rw [if_pos hk, if_pos (by omega)]; grind
      · rw [if_neg hk, if_neg (by omega)]; grind
theorem sm_swap (f : Nat → Nat → R) (m : Nat) : ∀ n, sm (fun i => sm (fun j => f i j) m) n = sm (fun j => sm (fun i => f i j) n) m
  | 0 => by simp only [sm]; exact (sm_zero m).symm
  | n + 1 => by simp only [sm]; rw [sm_swap f m n, sm_add]

/-! ### Layers -/
theorem dm_facts (L j : Nat) (hL : 0 < L) : (j % (2 * L) < L → (j + L) / (2 * L) = j / (2 * L) ∧ (j + L) % (2 * L) = j % (2 * L) + L) ∧ (¬ j % (2 * L) < L → L ≤ j ∧ (j - L) / (2 * L) = j / (2 * L) ∧ (j - L) % (2 * L) = j % (2 * L) - L) := by
  have h1 := Nat.div_add_mod j (2 * L)
  have h2 := Nat.mod_lt j (show 0 < 2 * L by omega)
  refine ⟨fun h => ?_, fun h => ?_⟩
  · have e : j + L = (j % (2 * L) + L) + 2 * L * (j / (2 * L)) := by omega
    refine ⟨?_, ?_⟩
    · rw [e, Nat.add_mul_div_left _ _ (by omega), Nat.div_eq_of_lt (by omega), Nat.zero_add]
    · conv => lhs; rw [e, Nat.add_mul_mod_self_left, Nat.mod_eq_of_lt (by omega)]
  · have e : j - L = (j % (2 * L) - L) + 2 * L * (j / (2 * L)) := by omega
    refine ⟨by omega, ?_, ?_⟩
    · rw [e, Nat.add_mul_div_left _ _ (by omega), Nat.div_eq_of_lt (by omega), Nat.zero_add]
    · conv => lhs; rw [e, Nat.add_mul_mod_self_left, Nat.mod_eq_of_lt (by omega)]
/-- A layer of the way there, and one of the way back. -/
def fl (z : Nat → R) (L : Nat) (v : Nat → R) (j : Nat) : R := if j % (2 * L) < L then v j + z (j / (2 * L)) * v (j + L) else v (j - L) - z (j / (2 * L)) * v j
def il (y : Nat → R) (L : Nat) (v : Nat → R) (j : Nat) : R := if j % (2 * L) < L then v j + v (j + L) else y (j / (2 * L)) * (v j - v (j - L))
theorem il_fl (y z : Nat → R) (L : Nat) (hL : 0 < L) (v : Nat → R) (j : Nat) (h : y (j / (2 * L)) * z (j / (2 * L)) = -1) : il y L (fl z L v) j = v j + v j := by
  obtain ⟨h1, h2⟩ := dm_facts L j hL
  unfold il
  by_cases hc : j % (2 * L) < L
  · obtain ⟨e1, e2⟩ := h1 hc
    rw [if_pos hc]; unfold fl
    rw [if_pos hc, e1, e2, if_neg (by omega), Nat.add_sub_cancel]; grind
  · obtain ⟨e0, e1, e2⟩ := h2 hc
    have hlt := Nat.mod_lt j (show 0 < 2 * L by omega)
    rw [if_neg hc]; unfold fl
    rw [if_neg hc, e1, e2, if_pos (by omega), show j - L + L = j by omega]; grind
/-- A layer only looks at places below 256, where 2 L divides 256. -/
theorem fl_congr (z z' : Nat → R) (L n : Nat) (hL : 0 < L) (hn : 2 * L * n = 256) (v v' : Nat → R) (hz : ∀ b, b < n → z b = z' b) (hv : ∀ j, j < 256 → v j = v' j) (j : Nat) (hj : j < 256) : fl z L v j = fl z' L v' j := by
  have hb : j / (2 * L) < n := Nat.div_lt_of_lt_mul (by omega)
  have h1 := Nat.div_add_mod j (2 * L)
  have h2 : 2 * L * (j / (2 * L)) + 2 * L ≤ 256 := by rw [← hn, ← Nat.mul_succ]; exact Nat.mul_le_mul_left _ hb
  unfold fl
  rw [hz _ hb]
  by_cases hc : j % (2 * L) < L
  · rw [if_pos hc, if_pos hc, hv j hj, hv (j + L) (by omega)]
  · rw [if_neg hc, if_neg hc, hv j hj, hv (j - L) (by omega)]
theorem il_congr (z z' : Nat → R) (L n : Nat) (hL : 0 < L) (hn : 2 * L * n = 256) (v v' : Nat → R) (hz : ∀ b, b < n → z b = z' b) (hv : ∀ j, j < 256 → v j = v' j) (j : Nat) (hj : j < 256) : il z L v j = il z' L v' j := by
  have hb : j / (2 * L) < n := Nat.div_lt_of_lt_mul (by omega)
  have h1 := Nat.div_add_mod j (2 * L)
  have h2 : 2 * L * (j / (2 * L)) + 2 * L ≤ 256 := by rw [← hn, ← Nat.mul_succ]; exact Nat.mul_le_mul_left _ hb
  unfold il
  rw [hz _ hb]
  by_cases hc : j % (2 * L) < L
  · rw [if_pos hc, if_pos hc, hv j hj, hv (j + L) (by omega)]
  · rw [if_neg hc, if_neg hc, hv j hj, hv (j - L) (by omega)]
theorem il_scale (z : Nat → R) (c : R) (L : Nat) (v : Nat → R) (j : Nat) : il z L (fun i => c * v i) j = c * il z L v j := by unfold il; split <;> grind
/-- Block b of a layer whose blocks have n parts of p: the rest by X^L = w. -/
def evX (p : Nat → R) (L n : Nat) (w : R) (m : Nat) : R := sm (fun q => p (m + q * L) * w ^ q) n
theorem pow_two_mul (z : R) (q : Nat) : z ^ (2 * q) = (z * z) ^ q := by
  induction q with
  | zero => grind
  | succ q ih => rw [show 2 * (q + 1) = 2 * q + 1 + 1 by omega, pwS, pwS, pwS, ih]; grind
theorem ev_step (p : Nat → R) (L n : Nat) (z w : R) (m : Nat) (hw : z * z = w) : evX p (2 * L) n w m + z * evX p (2 * L) n w (m + L) = evX p L (2 * n) z m := by
  unfold evX
  rw [sm_pair, ← sm_mul, ← sm_add]
  refine sm_congr n fun q _ => ?_
  rw [pow_two_mul, pwS, pow_two_mul, hw, show m + q * (2 * L) = m + 2 * q * L by rw [Nat.mul_comm 2 L, ← Nat.mul_assoc, Nat.mul_right_comm, Nat.mul_comm q 2], show m + L + q * (2 * L) = m + (2 * q + 1) * L by rw [Nat.add_mul, Nat.one_mul, Nat.mul_comm 2 L, ← Nat.mul_assoc, Nat.mul_right_comm q L 2, Nat.mul_comm q 2]; omega]
  grind
theorem ev_step' (p : Nat → R) (L n : Nat) (z w : R) (m : Nat) (hw : z * z = w) : evX p (2 * L) n w m - z * evX p (2 * L) n w (m + L) = evX p L (2 * n) (-z) m := by
  have h := ev_step p L n (-z) w m (by grind)
  grind
/-- One layer carries the invariant on. -/
theorem layer_step (p v : Nat → R) (L n : Nat) (hL : 0 < L) (z w : Nat → R) (w' : Nat → R) (h : ∀ b, b < n → ∀ m, m < 2 * L → v (b * (2 * L) + m) = evX p (2 * L) n (w b) m) (hz : ∀ b, b < n → z b * z b = w b) (h0 : ∀ b, b < n → w' (2 * b) = z b) (h1 : ∀ b, b < n → w' (2 * b + 1) = - z b) :
    ∀ b, b < 2 * n → ∀ m, m < L → fl z L v (b * L + m) = evX p L (2 * n) (w' b) m := by
  intro b hb m hm
  have hd : b = 2 * (b / 2) + b % 2 := by omega
  have hb2 : b / 2 < n := by omega
  have e0 : ∀ r, r < 2 * L → (b / 2 * (2 * L) + r) / (2 * L) = b / 2 ∧ (b / 2 * (2 * L) + r) % (2 * L) = r := fun r hr => by
    rw [Nat.mul_comm (b / 2), Nat.add_comm]
    exact ⟨by rw [Nat.add_mul_div_left _ _ (by omega), Nat.div_eq_of_lt hr, Nat.zero_add], by rw [Nat.add_mul_mod_self_left, Nat.mod_eq_of_lt hr]⟩
  rcases Nat.mod_two_eq_zero_or_one b with hm2 | hm2
  · have hbe : b = 2 * (b / 2) := by omega
    have ej : b * L + m = b / 2 * (2 * L) + m := by
      conv => lhs; rw [hbe, Nat.mul_right_comm]
      rw [show 2 * L * (b / 2) = b / 2 * (2 * L) from Nat.mul_comm _ _]
    obtain ⟨g1, g2⟩ := e0 m (by omega)
    rw [ej]; unfold fl
    rw [g1, g2, if_pos hm, h _ hb2 m (by omega), Nat.add_assoc, h _ hb2 (m + L) (by omega), ev_step _ _ _ _ _ _ (hz _ hb2)]
    conv => rhs; rw [hbe, h0 _ hb2]
  · have hbe : b = 2 * (b / 2) + 1 := by omega
    have ej : b * L + m = b / 2 * (2 * L) + (m + L) := by
      conv => lhs; rw [hbe, Nat.add_mul, Nat.one_mul, Nat.mul_right_comm]
      rw [show 2 * L * (b / 2) = b / 2 * (2 * L) from Nat.mul_comm _ _]; omega
    obtain ⟨g1, g2⟩ := e0 (m + L) (by omega)
    rw [ej]; unfold fl
    rw [g1, g2, if_neg (by omega), h _ hb2 (m + L) (by omega), show b / 2 * (2 * L) + (m + L) - L = b / 2 * (2 * L) + m by omega, h _ hb2 m (by omega), ev_step' _ _ _ _ _ _ (hz _ hb2)]
    conv => rhs; rw [hbe, h1 _ hb2]

/-! ### Pairs: F[Y] by Y^2 = z -/
/-- What p is there: the even and the odd places. -/
def ev2 (p : Nat → R) (z : R) (m : Nat) : R := sm (fun q => p (m + 2 * q) * z ^ q) 128
theorem ev2_eq (p : Nat → R) (z : R) (m : Nat) : evX p 2 128 z m = ev2 p z m := by unfold evX ev2; exact sm_congr _ fun q _ => by rw [Nat.mul_comm q 2]
end
end Go.Rx.Na

/- Plain functions of layer 11, as the program and the document reckon them; what they are in the field of 3329. No program and no memory here. -/
set_option maxRecDepth 100000
namespace Go.Rx
open Go.Rx.Na

/-! ### The field -/
abbrev F := Fin 3329
def fi (x : Int) : F := Fin.ofNat 3329 (zmod x)
theorem fi_val (x : Int) : (fi x).val = zmod x := by
  show zmod x % 3329 = zmod x; exact Nat.mod_eq_of_lt (zmod_lt x)
theorem fi_zmod (x : Int) : fi ((zmod x : Nat) : Int) = fi x := by apply Fin.ext; rw [fi_val, fi_val, zmod_zmod]
theorem fi_add (x y : Int) : fi ((zadd x y : Nat) : Int) = fi x + fi y := by
  apply Fin.ext; rw [fi_val, zmod_zadd, zadd_eq, Fin.val_add, fi_val, fi_val]
theorem fi_mul (x y : Int) : fi ((zmul x y : Nat) : Int) = fi x * fi y := by
  apply Fin.ext; rw [fi_val, zmod_zmul, Fin.val_mul, fi_val, fi_val]; rfl
theorem fi_sub (x y : Int) : fi ((zsub x y : Nat) : Int) = fi x - fi y := by
  apply Fin.ext; rw [fi_val, zmod_zsub, zsub_eq, Fin.sub_def]
  show _ = (3329 - (fi y).val + (fi x).val) % 3329
  rw [fi_val, fi_val]; have := zmod_lt y; congr 1; omega
theorem fi_inj {x y : Int} (hx : 0 ≤ x ∧ x < 3329) (hy : 0 ≤ y ∧ y < 3329) (h : fi x = fi y) : x = y := by
  have e := congrArg Fin.val h
  rw [fi_val, fi_val] at e
  unfold zmod at e; omega
theorem fi_modn (n : Nat) : fi ((n % 3329 : Nat) : Int) = fi (n : Int) := by apply Fin.ext; rw [fi_val, fi_val, zmod_nat, zmod_nat, Nat.mod_mod]
theorem fi_addn (m n : Nat) : fi ((m + n : Nat) : Int) = fi (m : Int) + fi (n : Int) := by
  apply Fin.ext; rw [fi_val, zmod_nat, Fin.val_add, fi_val, fi_val, zmod_nat, zmod_nat]; omega
theorem fi_muln (m n : Nat) : fi ((m * n : Nat) : Int) = fi (m : Int) * fi (n : Int) := by
  apply Fin.ext; rw [fi_val, zmod_nat, Fin.val_mul, fi_val, fi_val, zmod_nat, zmod_nat, ← Nat.mul_mod]
theorem fi_subn (m n : Nat) (h : n ≤ 3329) : fi ((m + 3329 - n : Nat) : Int) = fi (m : Int) - fi (n : Int) := by
  apply Fin.ext; rw [fi_val, zmod_nat, Fin.sub_def]
  show _ = (3329 - (fi (n : Int)).val + (fi (m : Int)).val) % 3329
  rw [fi_val, fi_val, zmod_nat, zmod_nat]; omega

/-! ### Lists of 256 -/
def fv (l : List Int) (j : Nat) : F := fi (l.getD j 0)
def tn (l : List Int) (j : Nat) : Nat := (l.getD j 0).toNat
structure Red (l : List Int) : Prop where
  len : l.length = 256
  rng : ∀ j, 0 ≤ l.getD j 0 ∧ l.getD j 0 < 3329
theorem Red.tn {l : List Int} (h : Red l) (j : Nat) : l.getD j 0 = ((tn l j : Nat) : Int) := by unfold Rx.tn; have := h.rng j; omega
theorem Red.lt {l : List Int} (h : Red l) (j : Nat) : Rx.tn l j < 3329 := by unfold Rx.tn; have := h.rng j; omega
theorem Red.fv {l : List Int} (h : Red l) (j : Nat) : fi ((Rx.tn l j : Nat) : Int) = Rx.fv l j := by rw [Rx.fv, h.tn j]
theorem getS {l : List Int} {i j : Nat} {v : Int} (hi : i < l.length) : (l.set i v).getD j 0 = if i = j then v else l.getD j 0 := by
  simp only [List.getD_eq_getElem?_getD, List.getElem?_set]
  by_cases e : i = j
  · subst e; simp [hi]
  · simp [e]
theorem getS' {l : List Int} {i j : Nat} {v : Int} : (l.set i v).getD j 0 = if i = j ∧ i < l.length then v else l.getD j 0 := by
  by_cases hi : i < l.length
  · rw [getS hi]; simp [hi]
  · rw [List.set_eq_of_length_le (by omega), if_neg (fun h => hi h.2)]
theorem Red.set {l : List Int} (h : Red l) (i : Nat) {v : Nat} (hv : v < 3329) : Red (l.set i (v : Int)) :=
  ⟨by rw [List.length_set, h.len], fun j => by rw [getS']; split; omega; exact h.rng j⟩
theorem red_rep : Red (List.replicate 256 0) := ⟨List.length_replicate, fun j => by rw [show (List.replicate 256 (0 : Int)).getD j 0 = 0 by rw [List.getD_eq_getElem?_getD, List.getElem?_replicate]; split <;> rfl]; omega⟩
theorem fv_set {l : List Int} (hl : l.length = 256) {i : Nat} (hi : i < 256) (v : Int) (j : Nat) : fv (l.set i v) j = if i = j then fi v else fv l j := by
  unfold fv; rw [getS (by omega)]; split <;> rfl
theorem fv_rep (j : Nat) : fv (List.replicate 256 0) j = 0 := by
  unfold fv; rw [show (List.replicate 256 (0 : Int)).getD j 0 = 0 by rw [List.getD_eq_getElem?_getD, List.getElem?_replicate]; split <;> rfl]; rfl
theorem ext256 {l m : List Int} (hl : l.length = 256) (hm : m.length = 256) (h : ∀ j, j < 256 → l.getD j 0 = m.getD j 0) : l = m := by
  apply List.ext_getElem? ; intro j
  by_cases hj : j < 256
  · have e := h j hj
    rw [List.getD_eq_getElem?_getD, List.getD_eq_getElem?_getD, List.getElem?_eq_getElem (by omega), List.getElem?_eq_getElem (by omega)] at e
    rw [List.getElem?_eq_getElem (by omega), List.getElem?_eq_getElem (by omega)]
    exact congrArg some e
  · rw [List.getElem?_eq_none (by omega), List.getElem?_eq_none (by omega)]
theorem red_ext {l m : List Int} (hl : Red l) (hm : Red m) (h : ∀ j, j < 256 → fv l j = fv m j) : l = m :=
  ext256 hl.len hm.len fun j hj => fi_inj (hl.rng j) (hm.rng j) (h j hj)

/-! ### Place by place -/
def eaA (o : Int → Int → Nat) (p q : List Int) : Nat → List Int
  | 0 => p
  | k + 1 => (eaA o p q k).set k ((o ((eaA o p q k).getD k 0) (q.getD k 0) : Nat) : Int)
theorem eaA_len (o : Int → Int → Nat) (p q : List Int) : ∀ k, (eaA o p q k).length = p.length
  | 0 => rfl
  | k + 1 => by rw [eaA, List.length_set, eaA_len o p q k]
theorem eaA_get (o : Int → Int → Nat) (p q : List Int) (hp : p.length = 256) : ∀ k, k ≤ 256 → ∀ j, (eaA o p q k).getD j 0 = if j < k then ((o (p.getD j 0) (q.getD j 0) : Nat) : Int) else p.getD j 0 := by
  intro k
  induction k with
  | zero => intro _ j; rw [eaA, if_neg (by omega)]
  | succ k ih =>
    intro hk j
    rw [eaA, getS (by rw [eaA_len]; omega), ih (by omega) k, if_neg (Nat.lt_irrefl k), ih (by omega) j]
    by_cases e : k = j
    · subst e; rw [if_pos rfl, if_pos (by omega)]
    · rw [if_neg e]
      by_cases h : j < k
      · rw [if_pos h, if_pos (by omega)]
      · rw [if_neg h, if_neg (by omega)]
def cl (p : List Int) : List Int := eaA (fun x _ => zmod x) p p 256
def pl (p q : List Int) : List Int := eaA zadd p q 256
def mi (p q : List Int) : List Int := eaA zsub p q 256
def scl (p : List Int) : List Int := eaA (fun x _ => zmul x 3303) p p 256
theorem ea_red (o : Int → Int → Nat) (ho : ∀ x y, o x y < 3329) (p q : List Int) (hp : p.length = 256) : Red (eaA o p q 256) :=
  ⟨by rw [eaA_len, hp], fun j => by
    rw [eaA_get o p q hp 256 (Nat.le_refl _) j]
    split
    · have := ho (p.getD j 0) (q.getD j 0); omega
    · rename_i h; rw [List.getD_eq_getElem?_getD, List.getElem?_eq_none (by omega)]; exact ⟨by decide, by decide⟩⟩
theorem cl_red (p : List Int) (hp : p.length = 256) : Red (cl p) := ea_red _ (fun x _ => zmod_lt x) p p hp
theorem pl_red (p q : List Int) (hp : p.length = 256) : Red (pl p q) := ea_red _ (fun _ _ => zmod_lt _) p q hp
theorem mi_red (p q : List Int) (hp : p.length = 256) : Red (mi p q) := ea_red _ (fun _ _ => zmod_lt _) p q hp
theorem sc_red (p : List Int) (hp : p.length = 256) : Red (scl p) := ea_red _ (fun _ _ => zmul_lt _ _) p p hp
theorem cl_fv (p : List Int) (hp : p.length = 256) (j : Nat) (hj : j < 256) : fv (cl p) j = fv p j := by unfold fv cl; rw [eaA_get _ p p hp 256 (Nat.le_refl _) j, if_pos hj, fi_zmod]
theorem pl_fv (p q : List Int) (hp : p.length = 256) (j : Nat) (hj : j < 256) : fv (pl p q) j = fv p j + fv q j := by unfold fv pl; rw [eaA_get _ p q hp 256 (Nat.le_refl _) j, if_pos hj, fi_add]
theorem mi_fv (p q : List Int) (hp : p.length = 256) (j : Nat) (hj : j < 256) : fv (mi p q) j = fv p j - fv q j := by unfold fv mi; rw [eaA_get _ p q hp 256 (Nat.le_refl _) j, if_pos hj, fi_sub]
theorem sc_fv (p : List Int) (hp : p.length = 256) (j : Nat) (hj : j < 256) : fv (scl p) j = fv p j * fi 3303 := by unfold fv scl; rw [eaA_get _ p p hp 256 (Nat.le_refl _) j, if_pos hj, fi_mul]
theorem cl_of_red {p : List Int} (h : Red p) : cl p = p := red_ext (cl_red p h.len) h fun j hj => cl_fv p h.len j hj
/-- The document's sum and difference, of lists that are rests. -/
def rplA (p q : List Int) : Nat → List Int
  | 0 => p
  | k + 1 => (rplA p q k).set k (((tn (rplA p q k) k + tn q k) % 3329 : Nat) : Int)
theorem rpl_red {p q : List Int} (hp : Red p) : ∀ k, Red (rplA p q k)
  | 0 => hp
  | k + 1 => (rpl_red hp k).set k (Nat.mod_lt _ (by decide))
theorem rpl_fv {p q : List Int} (hp : Red p) (hq : Red q) : ∀ k, k ≤ 256 → ∀ j, fv (rplA p q k) j = if j < k then fv p j + fv q j else fv p j := by
  intro k
  induction k with
  | zero => intro _ j; rw [rplA, if_neg (by omega)]
  | succ k ih =>
    intro hk j
    rw [rplA, fv_set (rpl_red hp k).len (by omega), fi_modn, fi_addn, (rpl_red hp k).fv, hq.fv, ih (by omega) k, if_neg (Nat.lt_irrefl k), ih (by omega) j]
    by_cases e : k = j
    · subst e; rw [if_pos rfl, if_pos (by omega)]
    · rw [if_neg e]
      by_cases h : j < k
      · rw [if_pos h, if_pos (by omega)]
      · rw [if_neg h, if_neg (by omega)]
theorem pl_eq (p q : List Int) (hp : p.length = 256) (hq : q.length = 256) : pl p q = rplA (cl p) (cl q) 256 :=
  red_ext (pl_red p q hp) (rpl_red (cl_red p hp) 256) fun j hj => by rw [pl_fv p q hp j hj, rpl_fv (cl_red p hp) (cl_red q hq) 256 (Nat.le_refl _) j, if_pos hj, cl_fv p hp j hj, cl_fv q hq j hj]
/-! ### There -/
def lenF : Nat → Nat
  | 0 => 128
  | i + 1 => lenF i / 2
def nbF : Nat → Nat
  | 0 => 1
  | i + 1 => 2 * nbF i
def kF : Nat → Nat
  | 0 => 1
  | i + 1 => kF i + nbF i
theorem F_facts : ∀ i, i < 7 → 2 * lenF i * nbF i = 256 ∧ 0 < lenF i ∧ kF i = nbF i ∧ 2 ≤ lenF i ∧ nbF i ≤ 64 ∧ lenF i ≤ 128 := by decide
theorem F_end : ∀ i, i ≤ 7 → (2 ≤ lenF i ↔ i < 7) ∧ lenF i ≤ 128 ∧ kF i ≤ 128 := by decide
theorem blkF (L n b : Nat) (h : 2 * L * n = 256) (hL : 0 < L) : (2 * L * b < 256 → b < n ∧ 2 * L * b + 2 * L ≤ 256) ∧ (¬ 2 * L * b < 256 → n ≤ b) := by
  refine ⟨fun hb => ?_, fun hb => ?_⟩
  · have h1 : b < n := Nat.lt_of_mul_lt_mul_left (a := 2 * L) (by omega)
    refine ⟨h1, ?_⟩
    have := Nat.mul_le_mul_left (2 * L) (show b + 1 ≤ n from h1)
    rw [Nat.mul_succ] at this; omega
  · exact Nat.le_of_mul_le_mul_left (show 2 * L * n ≤ 2 * L * b by omega) (by omega)
def bfF (z : Int) (L j : Nat) (q : List Int) : List Int :=
  (q.set (j + L) ((zsub (q.getD j 0) ((zmul z (q.getD (j + L) 0) : Nat) : Int) : Nat) : Int)).set j
    ((zadd ((q.set (j + L) ((zsub (q.getD j 0) ((zmul z (q.getD (j + L) 0) : Nat) : Int) : Nat) : Int)).getD j 0) ((zmul z (q.getD (j + L) 0) : Nat) : Int) : Nat) : Int)
def fwB (z : Int) (L s : Nat) (p : List Int) : Nat → List Int
  | 0 => p
  | i + 1 => bfF z L (s + i) (fwB z L s p i)
def fwS (i : Nat) (p : List Int) : Nat → List Int
  | 0 => p
  | b + 1 => fwB ((zz ((kF i + b : Nat) : Int) 7 : Nat) : Int) (lenF i) (2 * lenF i * b) (fwS i p b) (lenF i)
def fwL (p : List Int) : Nat → List Int
  | 0 => cl p
  | i + 1 => fwS i (fwL p i) (nbF i)
def fwd (p : List Int) : List Int := fwL p 7
theorem bfF_len (z : Int) (L j : Nat) (q : List Int) : (bfF z L j q).length = q.length := by unfold bfF; rw [List.length_set, List.length_set]
theorem fwB_len (z : Int) (L s : Nat) (p : List Int) : ∀ i, (fwB z L s p i).length = p.length
  | 0 => rfl
  | i + 1 => by rw [fwB, bfF_len, fwB_len z L s p i]
theorem fwS_len (i : Nat) (p : List Int) : ∀ b, (fwS i p b).length = p.length
  | 0 => rfl
  | b + 1 => by rw [fwS, fwB_len, fwS_len i p b]
theorem fwL_len (p : List Int) : ∀ i, (fwL p i).length = p.length
  | 0 => eaA_len _ _ _ _
  | i + 1 => by rw [fwL, fwS_len, fwL_len p i]
theorem bfF_red (z : Int) (L j : Nat) {q : List Int} (h : Red q) : Red (bfF z L j q) := (h.set _ (zmod_lt _)).set _ (zmod_lt _)
theorem fwB_red (z : Int) (L s : Nat) {p : List Int} (h : Red p) : ∀ i, Red (fwB z L s p i)
  | 0 => h
  | i + 1 => bfF_red _ _ _ (fwB_red z L s h i)
theorem fwS_red (i : Nat) {p : List Int} (h : Red p) : ∀ b, Red (fwS i p b)
  | 0 => h
  | b + 1 => fwB_red _ _ _ (fwS_red i h b) _
theorem fwL_red (p : List Int) (hp : p.length = 256) : ∀ i, Red (fwL p i)
  | 0 => cl_red p hp
  | i + 1 => fwS_red i (fwL_red p hp i) _
theorem bfF_fv (z : Int) (L j : Nat) (q : List Int) (hq : q.length = 256) (hL : 0 < L) (hj : j + L < 256) (k : Nat) : fv (bfF z L j q) k = if k = j then fv q j + fi z * fv q (j + L) else if k = j + L then fv q j - fi z * fv q (j + L) else fv q k := by
  unfold bfF
  rw [fv_set (by rw [List.length_set, hq]) (by omega), fi_add, fi_mul, getS (by omega), if_neg (show ¬ j + L = j by omega), fv_set hq hj, fi_sub, fi_mul]
  by_cases h1 : k = j
  · subst h1; rw [if_pos rfl, if_pos rfl]; rfl
  · rw [if_neg (show ¬ j = k from fun e => h1 e.symm), if_neg (show ¬ k = j from h1)]
    by_cases h2 : k = j + L
    · subst h2; rw [if_pos rfl, if_pos rfl]; rfl
    · rw [if_neg (show ¬ j + L = k from fun e => h2 e.symm), if_neg h2]
theorem fwB_fv (z : Int) (L s : Nat) (p : List Int) (hp : p.length = 256) (hL : 0 < L) (hs : s + 2 * L ≤ 256) : ∀ i, i ≤ L → ∀ k, fv (fwB z L s p i) k = if s ≤ k ∧ k < s + i then fv p k + fi z * fv p (k + L) else if s + L ≤ k ∧ k < s + L + i then fv p (k - L) - fi z * fv p k else fv p k := by
  intro i
  induction i with
  | zero => intro _ k; rw [fwB, if_neg (by omega), if_neg (by omega)]
  | succ i ih =>
    intro hi k
    have a0 : fv (fwB z L s p i) (s + i) = fv p (s + i) := by rw [ih (by omega), if_neg (by omega), if_neg (by omega)]
    have a1 : fv (fwB z L s p i) (s + i + L) = fv p (s + i + L) := by rw [ih (by omega), if_neg (by omega), if_neg (by omega)]
    rw [fwB, bfF_fv z L (s + i) _ (by rw [fwB_len, hp]) hL (by omega) k, a0, a1, ih (by omega) k]
    by_cases h1 : k = s + i
    · subst h1; rw [if_pos rfl, if_pos (by omega)]
    · rw [if_neg h1]
      by_cases h2 : k = s + i + L
      · subst h2; rw [if_pos rfl, if_neg (by omega), if_pos (by omega), Nat.add_sub_cancel]
      · rw [if_neg h2]
        by_cases h3 : s ≤ k ∧ k < s + i
        · rw [if_pos h3, if_pos (show s ≤ k ∧ k < s + (i + 1) by omega)]
        · rw [if_neg h3, if_neg (show ¬ (s ≤ k ∧ k < s + (i + 1)) by omega)]
          by_cases h4 : s + L ≤ k ∧ k < s + L + i
          · rw [if_pos h4, if_pos (show s + L ≤ k ∧ k < s + L + (i + 1) by omega)]
          · rw [if_neg h4, if_neg (show ¬ (s + L ≤ k ∧ k < s + L + (i + 1)) by omega)]
def zF (i b : Nat) : F := fi ((zz ((kF i + b : Nat) : Int) 7 : Nat) : Int)
theorem fwS_fv (i : Nat) (hi : i < 7) (p : List Int) (hp : p.length = 256) : ∀ b, b ≤ nbF i → ∀ k, fv (fwS i p b) k = if k < 2 * lenF i * b then fl (zF i) (lenF i) (fv p) k else fv p k := by
  obtain ⟨f1, f2, _, _, _, _⟩ := F_facts i hi
  intro b
  induction b with
  | zero => intro _ k; rw [fwS, if_neg (by omega)]
  | succ b ih =>
    intro hb k
    have hlt : 2 * lenF i * b < 256 := by rw [← f1]; exact Nat.mul_lt_mul_of_pos_left (by omega) (by omega)
    have h2 := ((blkF (lenF i) (nbF i) b f1 f2).1 hlt).2
    have e : ∀ k, ¬ k < 2 * lenF i * b → fv (fwS i p b) k = fv p k := fun k h => by rw [ih (by omega) k, if_neg h]
    rw [fwS, fwB_fv _ _ _ _ (by rw [fwS_len, hp]) f2 h2 _ (Nat.le_refl _) k, Nat.mul_succ]
    by_cases h3 : k < 2 * lenF i * b
    · rw [if_neg (by omega), if_neg (by omega), ih (by omega) k, if_pos h3, if_pos (by omega)]
    · by_cases h4 : k < 2 * lenF i * b + 2 * lenF i
      · have hdiv : k / (2 * lenF i) = b := Nat.div_eq_of_lt_le (by rw [Nat.mul_comm]; omega) (by rw [Nat.mul_comm, Nat.mul_succ]; omega)
        have hmod : k % (2 * lenF i) = k - 2 * lenF i * b := by have := Nat.div_add_mod k (2 * lenF i); rw [hdiv] at this; omega
        rw [if_pos h4]
        unfold fl
        rw [hdiv, hmod]
        by_cases h5 : k < 2 * lenF i * b + lenF i
        · rw [if_pos (by omega), if_pos (by omega), e k h3, e (k + lenF i) (by omega)]; rfl
        · rw [if_neg (by omega), if_pos (by omega), if_neg (by omega), e k h3, e (k - lenF i) (by omega)]; rfl
      · rw [if_neg (by omega), if_neg (by omega), if_neg h4, e k h3]
theorem fwL_fv (p : List Int) (hp : p.length = 256) (i : Nat) (hi : i < 7) (k : Nat) (hk : k < 256) : fv (fwL p (i + 1)) k = fl (zF i) (lenF i) (fv (fwL p i)) k := by
  rw [fwL, fwS_fv i hi _ (by rw [fwL_len, hp]) (nbF i) (Nat.le_refl _) k, (F_facts i hi).1, if_pos hk]

/-! ### And back -/
def lenI : Nat → Nat
  | 0 => 2
  | i + 1 => lenI i * 2
def nbI : Nat → Nat
  | 0 => 64
  | i + 1 => nbI i / 2
def kI : Nat → Nat
  | 0 => 127
  | i + 1 => kI i - nbI i
theorem I_facts : ∀ i, i < 7 → 2 * lenI i * nbI i = 256 ∧ 0 < lenI i ∧ nbI i ≤ kI i ∧ lenI i ≤ 128 ∧ nbI i ≤ 64 ∧ kI i ≤ 127 := by decide
theorem I_end : ∀ i, i ≤ 7 → (lenI i ≤ 128 ↔ i < 7) ∧ kI i ≤ 127 ∧ lenI i ≤ 256 := by decide
def bfI (z : Int) (L j : Nat) (q : List Int) : List Int :=
  (q.set j ((zadd (q.getD j 0) (q.getD (j + L) 0) : Nat) : Int)).set (j + L)
    ((zmul z ((zsub ((q.set j ((zadd (q.getD j 0) (q.getD (j + L) 0) : Nat) : Int)).getD (j + L) 0) (q.getD j 0) : Nat) : Int) : Nat) : Int)
def ivB (z : Int) (L s : Nat) (p : List Int) : Nat → List Int
  | 0 => p
  | i + 1 => bfI z L (s + i) (ivB z L s p i)
def ivS (i : Nat) (p : List Int) : Nat → List Int
  | 0 => p
  | b + 1 => ivB ((zz ((kI i - b : Nat) : Int) 7 : Nat) : Int) (lenI i) (2 * lenI i * b) (ivS i p b) (lenI i)
def ivL (p : List Int) : Nat → List Int
  | 0 => cl p
  | i + 1 => ivS i (ivL p i) (nbI i)
def inv (p : List Int) : List Int := scl (ivL p 7)
theorem bfI_len (z : Int) (L j : Nat) (q : List Int) : (bfI z L j q).length = q.length := by unfold bfI; rw [List.length_set, List.length_set]
theorem ivB_len (z : Int) (L s : Nat) (p : List Int) : ∀ i, (ivB z L s p i).length = p.length
  | 0 => rfl
  | i + 1 => by rw [ivB, bfI_len, ivB_len z L s p i]
theorem ivS_len (i : Nat) (p : List Int) : ∀ b, (ivS i p b).length = p.length
  | 0 => rfl
  | b + 1 => by rw [ivS, ivB_len, ivS_len i p b]
theorem ivL_len (p : List Int) : ∀ i, (ivL p i).length = p.length
  | 0 => eaA_len _ _ _ _
  | i + 1 => by rw [ivL, ivS_len, ivL_len p i]
theorem bfI_fv (z : Int) (L j : Nat) (q : List Int) (hq : q.length = 256) (hL : 0 < L) (hj : j + L < 256) (k : Nat) : fv (bfI z L j q) k = if k = j then fv q j + fv q (j + L) else if k = j + L then fi z * (fv q (j + L) - fv q j) else fv q k := by
  unfold bfI
  rw [fv_set (by rw [List.length_set, hq]) hj, fi_mul, fi_sub, getS (by omega), if_neg (show ¬ j = j + L by omega), fv_set hq (by omega), fi_add]
  by_cases h1 : k = j
  · subst h1; rw [if_neg (show ¬ k + L = k by omega), if_pos rfl, if_pos rfl]; rfl
  · by_cases h2 : k = j + L
    · subst h2; rw [if_pos rfl, if_neg h1, if_pos rfl]; rfl
    · rw [if_neg (show ¬ j + L = k from fun e => h2 e.symm), if_neg (show ¬ j = k from fun e => h1 e.symm), if_neg h1, if_neg h2]
theorem ivB_fv (z : Int) (L s : Nat) (p : List Int) (hp : p.length = 256) (hL : 0 < L) (hs : s + 2 * L ≤ 256) : ∀ i, i ≤ L → ∀ k, fv (ivB z L s p i) k = if s ≤ k ∧ k < s + i then fv p k + fv p (k + L) else if s + L ≤ k ∧ k < s + L + i then fi z * (fv p k - fv p (k - L)) else fv p k := by
  intro i
  induction i with
  | zero => intro _ k; rw [ivB, if_neg (by omega), if_neg (by omega)]
  | succ i ih =>
    intro hi k
    have a0 : fv (ivB z L s p i) (s + i) = fv p (s + i) := by rw [ih (by omega), if_neg (by omega), if_neg (by omega)]
    have a1 : fv (ivB z L s p i) (s + i + L) = fv p (s + i + L) := by rw [ih (by omega), if_neg (by omega), if_neg (by omega)]
    rw [ivB, bfI_fv z L (s + i) _ (by rw [ivB_len, hp]) hL (by omega) k, a0, a1, ih (by omega) k]
    by_cases h1 : k = s + i
    · subst h1; rw [if_pos rfl, if_pos (by omega)]
    · rw [if_neg h1]
      by_cases h2 : k = s + i + L
      · subst h2; rw [if_pos rfl, if_neg (by omega), if_pos (by omega), Nat.add_sub_cancel]
      · rw [if_neg h2]
        by_cases h3 : s ≤ k ∧ k < s + i
        · rw [if_pos h3, if_pos (show s ≤ k ∧ k < s + (i + 1) by omega)]
        · rw [if_neg h3, if_neg (show ¬ (s ≤ k ∧ k < s + (i + 1)) by omega)]
          by_cases h4 : s + L ≤ k ∧ k < s + L + i
          · rw [if_pos h4, if_pos (show s + L ≤ k ∧ k < s + L + (i + 1) by omega)]
          · rw [if_neg h4, if_neg (show ¬ (s + L ≤ k ∧ k < s + L + (i + 1)) by omega)]
def zI (i b : Nat) : F := fi ((zz ((kI i - b : Nat) : Int) 7 : Nat) : Int)
theorem ivS_fv (i : Nat) (hi : i < 7) (p : List Int) (hp : p.length = 256) : ∀ b, b ≤ nbI i → ∀ k, fv (ivS i p b) k = if k < 2 * lenI i * b then il (zI i) (lenI i) (fv p) k else fv p k := by
  obtain ⟨f1, f2, _, _, _, _⟩ := I_facts i hi
  intro b
  induction b with
  | zero => intro _ k; rw [ivS, if_neg (by omega)]
  | succ b ih =>
    intro hb k
    have hlt : 2 * lenI i * b < 256 := by rw [← f1]; exact Nat.mul_lt_mul_of_pos_left (by omega) (by omega)
    have h2 := ((blkF (lenI i) (nbI i) b f1 f2).1 hlt).2
    have e : ∀ k, ¬ k < 2 * lenI i * b → fv (ivS i p b) k = fv p k := fun k h => by rw [ih (by omega) k, if_neg h]
    rw [ivS, ivB_fv _ _ _ _ (by rw [ivS_len, hp]) f2 h2 _ (Nat.le_refl _) k, Nat.mul_succ]
    by_cases h3 : k < 2 * lenI i * b
    · rw [if_neg (by omega), if_neg (by omega), ih (by omega) k, if_pos h3, if_pos (by omega)]
    · by_cases h4 : k < 2 * lenI i * b + 2 * lenI i
      · have hdiv : k / (2 * lenI i) = b := Nat.div_eq_of_lt_le (by rw [Nat.mul_comm]; omega) (by rw [Nat.mul_comm, Nat.mul_succ]; omega)
        have hmod : k % (2 * lenI i) = k - 2 * lenI i * b := by have := Nat.div_add_mod k (2 * lenI i); rw [hdiv] at this; omega
        rw [if_pos h4]
        unfold il
        rw [hdiv, hmod]
        by_cases h5 : k < 2 * lenI i * b + lenI i
        · rw [if_pos (by omega), if_pos (by omega), e k h3, e (k + lenI i) (by omega)]
        · rw [if_neg (by omega), if_pos (by omega), if_neg (by omega), e k h3, e (k - lenI i) (by omega)]; rfl
      · rw [if_neg (by omega), if_neg (by omega), if_neg h4, e k h3]
theorem ivL_fv (p : List Int) (hp : p.length = 256) (i : Nat) (hi : i < 7) (k : Nat) (hk : k < 256) : fv (ivL p (i + 1)) k = il (zI i) (lenI i) (fv (ivL p i)) k := by
  rw [ivL, ivS_fv i hi _ (by rw [ivL_len, hp]) (nbI i) (Nat.le_refl _) k, (I_facts i hi).1, if_pos hk]
end Go.Rx

/- Plain laws of layer 11. No program and no memory here. -/
set_option maxRecDepth 100000
set_option exponentiation.threshold 4000
namespace Go.Rx
open Go.Rx.Na

/-! ### There: what a polynomial is by its factors -/
def rootN (i : Nat) : Nat := rpow 17 (2 * turned ((i : Nat) : Int) + 1)
def zr (i : Nat) : F := fi ((rootN i : Nat) : Int)
def wF : Nat → Nat → F
  | 0, _ => -1
  | i + 1, b => if b % 2 = 0 then zF i (b / 2) else - zF i (b / 2)
theorem wF_sq : ∀ i, i < 7 → ∀ b, b < nbF i → zF i b * zF i b = wF i b := by decide +kernel
theorem lenF_half : ∀ i, i < 7 → 2 * lenF (i + 1) = lenF i := by decide
theorem roots : ∀ b, b < 128 → wF 7 b = zr b := by decide +kernel
theorem fwL_inv (p : List Int) (hp : p.length = 256) : ∀ i, i ≤ 7 → ∀ b, b < nbF i → ∀ m, m < 2 * lenF i → fv (fwL p i) (b * (2 * lenF i) + m) = evX (fv p) (2 * lenF i) (nbF i) (wF i b) m := by
  intro i
  induction i with
  | zero =>
    intro _ b hb m hm
    simp only [nbF, lenF] at hb hm ⊢
    rw [show b = 0 by omega, Nat.zero_mul, Nat.zero_add, fwL, cl_fv p hp m (by omega)]
    simp only [evX, sm]
    rw [Nat.zero_mul, Nat.add_zero, pwZ]; grind
  | succ i ih =>
    intro hi b hb m hm
    obtain ⟨f1, f2, _, _, _, _⟩ := F_facts i (by omega)
    have hh := lenF_half i (by omega)
    have hj : b * lenF i + m < 256 := by
      have h1 := Nat.mul_le_mul_right (lenF i) (show b + 1 ≤ 2 * nbF i from hb)
      rw [Nat.add_mul, Nat.one_mul, Nat.mul_right_comm] at h1; omega
    rw [hh, fwL_fv p hp i (by omega) _ hj]
    exact layer_step (fv p) (fv (fwL p i)) (lenF i) (nbF i) f2 (zF i) (wF i) (wF (i + 1)) (ih (by omega)) (wF_sq i (by omega)) (fun b _ => by simp only [wF]; rw [if_pos (by omega), show 2 * b / 2 = b by omega]) (fun b _ => by simp only [wF]; rw [if_neg (by omega), show (2 * b + 1) / 2 = b by omega]) b hb m (by omega)
theorem fwd_fv (p : List Int) (hp : p.length = 256) (b m : Nat) (hb : b < 128) (hm : m < 2) : fv (fwd p) (2 * b + m) = ev2 (fv p) (zr b) m := by
  have h := fwL_inv p hp 7 (Nat.le_refl _) b hb m hm
  rw [roots b hb] at h
  rw [← ev2_eq, Nat.mul_comm 2 b]; exact h
theorem fwd_red (p : List Int) (hp : p.length = 256) : Red (fwd p) := fwL_red p hp 7
def hzA (l : List Int) (z m : Nat) : Nat → Nat
  | 0 => 0
  | t + 1 => (hzA l z m t * z + tn l (2 * (127 - t) + m)) % 3329
theorem hzA_lt (l : List Int) (z m : Nat) : ∀ t, hzA l z m t < 3329
  | 0 => (by decide : 0 < 3329)
  | t + 1 => Nat.mod_lt _ (by decide)
theorem hz_ev {l : List Int} (hl : Red l) (z m : Nat) : ∀ t, t ≤ 128 → fi ((hzA l z m t : Nat) : Int) = sm (fun q => fv l (2 * (128 - t + q) + m) * fi (z : Int) ^ q) t
  | 0, _ => rfl
  | t + 1, h => by
    rw [hzA, fi_modn, fi_addn, fi_muln, hl.fv, hz_ev hl z m t (by omega), sm_left]
    rw [sm_congr (f := fun i => fv l (2 * (128 - (t + 1) + (i + 1)) + m) * fi (z : Int) ^ (i + 1)) (g := fun q => fi (z : Int) * (fv l (2 * (128 - t + q) + m) * fi (z : Int) ^ q)) t (fun q _ => by rw [show 128 - (t + 1) + (q + 1) = 128 - t + q by omega, pwS]; grind)]
    rw [sm_mul, pwZ, show 128 - (t + 1) + 0 = 127 - t by omega]
    grind
def rfwA (p : List Int) : Nat → List Int
  | 0 => List.replicate 256 0
  | i + 1 => ((rfwA p i).set (2 * i) ((hzA p (rootN i) 0 128 : Nat) : Int)).set (2 * i + 1) ((hzA p (rootN i) 1 128 : Nat) : Int)
theorem rfw_red (p : List Int) : ∀ i, Red (rfwA p i)
  | 0 => red_rep
  | i + 1 => ((rfw_red p i).set _ (hzA_lt _ _ _ _)).set _ (hzA_lt _ _ _ _)
theorem rfw_fv {p : List Int} (hp : Red p) : ∀ n, n ≤ 128 → ∀ b m, m < 2 → b < n → fv (rfwA p n) (2 * b + m) = ev2 (fv p) (zr b) m := by
  intro n
  induction n with
  | zero => intro _ b m _ hb; omega
  | succ n ih =>
    intro hn b m hm hb
    rw [rfwA, fv_set (by rw [List.length_set, (rfw_red p n).len]) (by omega), fv_set (rfw_red p n).len (by omega)]
    have hv : ∀ m, fi ((hzA p (rootN n) m 128 : Nat) : Int) = ev2 (fv p) (zr n) m := fun m => by
      rw [hz_ev hp _ m 128 (Nat.le_refl _)]
      exact sm_congr 128 fun q _ => by rw [show 2 * (128 - 128 + q) + m = m + 2 * q by omega]; rfl
    by_cases e : b = n
    · subst e
      match m, hm with
      | 0, _ => rw [if_neg (by omega), if_pos (by omega), hv]
      | 1, _ => rw [if_pos rfl, hv]
    · rw [if_neg (by omega), if_neg (by omega)]; exact ih (by omega) b m hm (by omega)
theorem fwd_eq (p : List Int) (hp : p.length = 256) : fwd p = rfwA (cl p) 128 :=
  red_ext (fwd_red p hp) (rfw_red _ _) fun j hj => by
    have h1 := fwd_fv p hp (j / 2) (j % 2) (by omega) (by omega)
    have h2 := rfw_fv (cl_red p hp) 128 (Nat.le_refl _) (j / 2) (j % 2) (by omega) (by omega)
    rw [show 2 * (j / 2) + j % 2 = j by omega] at h1 h2
    rw [h1, h2]
    exact sm_congr 128 fun q _ => by rw [cl_fv p hp _ (by omega)]

/-! ### And back -/
theorem len_turn : ∀ i, i < 7 → lenI i = lenF (6 - i) ∧ nbI i = nbF (6 - i) := by decide
theorem zz_turn : ∀ i, i < 7 → ∀ b, b < nbI i → zI i b * zF (6 - i) b = -1 := by decide +kernel
theorem div_lt_nb (L n j : Nat) (h : 2 * L * n = 256) (hj : j < 256) : j / (2 * L) < n := Nat.div_lt_of_lt_mul (by omega)
theorem inv_fwd_aux (p : List Int) (hp : p.length = 256) : ∀ i, i ≤ 7 → ∀ j, j < 256 → fv (ivL (fwd p) i) j = (2 : F) ^ i * fv (fwL p (7 - i)) j := by
  intro i
  induction i with
  | zero => intro _ j hj; rw [ivL, cl_fv _ (fwd_red p hp).len j hj, pwZ]; show fv (fwL p 7) j = _; grind
  | succ i ih =>
    intro hi j hj
    obtain ⟨f1, f2, _, _, _, _⟩ := I_facts i (by omega)
    obtain ⟨t1, t2⟩ := len_turn i (by omega)
    rw [ivL_fv _ (fwd_red p hp).len i (by omega) j hj]
    rw [il_congr (zI i) (zI i) (lenI i) (nbI i) f2 f1 _ (fun j => (2 : F) ^ i * fl (zF (6 - i)) (lenI i) (fv (fwL p (6 - i))) j) (fun _ _ => rfl) (fun j hj => by
      rw [ih (by omega) j hj, show 7 - i = (6 - i) + 1 by omega, fwL_fv p hp (6 - i) (by omega) j hj, t1]) j hj]
    rw [il_scale, il_fl _ _ _ f2 _ j (zz_turn i (by omega) _ (div_lt_nb _ _ j f1 hj)), pwS, show 7 - (i + 1) = 6 - i by omega]; grind
theorem c128 : (2 : F) ^ 7 * fi 3303 = 1 := by decide +kernel
theorem inv_red (p : List Int) (hp : p.length = 256) : Red (inv p) := sc_red _ (by rw [ivL_len, hp])
theorem inv_fwd (p : List Int) (hp : p.length = 256) : inv (fwd p) = cl p :=
  red_ext (inv_red _ (fwd_red p hp).len) (cl_red p hp) fun j hj => by
    rw [inv, sc_fv _ (by rw [ivL_len, (fwd_red p hp).len]) j hj, inv_fwd_aux p hp 7 (Nat.le_refl _) j hj]
    show (2 : F) ^ 7 * fv (cl p) j * fi 3303 = _
    have := c128; grind
theorem inv_cl (p : List Int) (hp : p.length = 256) : inv (cl p) = inv p := by
  have e : ∀ i, ivL (cl p) i = ivL p i := by
    intro i
    induction i with
    | zero => rw [ivL, ivL, cl_of_red (cl_red p hp)]
    | succ i ih => rw [ivL, ivL, ih]
  rw [inv, inv, e]

/-- w(i): the root's inverse. -/
def wN (i : Nat) : Nat := rpow ((rootN i : Nat) : Int) 255
def wi (i : Nat) : F := fi ((wN i : Nat) : Int)
def zt : List Nat := [17, 3312, 2761, 568, 583, 2746, 2649, 680, 1637, 1692, 723, 2606, 2288, 1041, 1100, 2229, 1409, 1920, 2662, 667, 3281, 48, 233, 3096, 756, 2573, 2156, 1173, 3015, 314, 3050, 279, 1703, 1626, 1651, 1678, 2789, 540, 1789, 1540, 1847, 1482, 952, 2377, 1461, 1868, 2687, 642, 939, 2390, 2308, 1021, 2437, 892, 2388, 941, 733, 2596, 2337, 992, 268, 3061, 641, 2688, 1584, 1745, 2298, 1031, 2037, 1292, 3220, 109, 375, 2954, 2549, 780, 2090, 1239, 1645, 1684, 1063, 2266, 319, 3010, 2773, 556, 757, 2572, 2099, 1230, 561, 2768, 2466, 863, 2594, 735, 2804, 525, 1092, 2237, 403, 2926, 1026, 2303, 1143, 2186, 2150, 1179, 2775, 554, 886, 2443, 1722, 1607, 1212, 2117, 1874, 1455, 1029, 2300, 2110, 1219, 2935, 394, 885, 2444, 2154, 1175]
theorem zt_roots : ∀ i, i < 128 → rootN i = zt.getD i 0 := by decide +kernel
theorem zt_nodup : zt.Nodup := by decide +kernel
theorem zt_lt : ∀ i, i < 128 → zt.getD i 0 < 3329 := by decide +kernel
theorem zt_inj (i b : Nat) (hi : i < 128) (hb : b < 128) (h : zt.getD i 0 = zt.getD b 0) : i = b := by
  have h1 : i < zt.length := hi
  have h2 : b < zt.length := hb
  rw [List.getD_eq_getElem?_getD, List.getD_eq_getElem?_getD, List.getElem?_eq_getElem h1, List.getElem?_eq_getElem h2] at h
  exact (List.getElem_inj zt_nodup).1 h
theorem wz_one : ∀ i, i < 128 → wN i * rootN i % 3329 = 1 := by decide +kernel
theorem rr_m : ∀ i, i < 128 → rootN i ^ 128 % 3329 = 3328 ∧ wN i ^ 128 % 3329 = 3328 := by decide +kernel
theorem fi_pow (n k : Nat) : fi (n : Int) ^ k = fi ((n ^ k : Nat) : Int) := by
  induction k with
  | zero => rw [pwZ, Nat.pow_zero]; rfl
  | succ k ih => rw [pwS, ih, Nat.pow_succ, fi_muln]
theorem fi_eq {m n : Nat} (h : m % 3329 = n % 3329) : fi (m : Int) = fi (n : Int) := by rw [← fi_modn, h, fi_modn]
theorem wz (i : Nat) (hi : i < 128) : wi i * zr i = 1 := by
  rw [wi, zr, ← fi_muln, fi_eq (n := 1) (by rw [wz_one i hi])]; rfl
theorem zr128 (i : Nat) (hi : i < 128) : zr i ^ 128 = -1 := by rw [zr, fi_pow, fi_eq (n := 3328) (by rw [(rr_m i hi).1])]; decide
theorem wi128 (i : Nat) (hi : i < 128) : wi i ^ 128 = -1 := by rw [wi, fi_pow, fi_eq (n := 3328) (by rw [(rr_m i hi).2])]; decide
theorem zr_inj (i b : Nat) (hi : i < 128) (hb : b < 128) (h : zr i = zr b) : i = b := by
  rw [zr, zr, zt_roots i hi, zt_roots b hb] at h
  have h3 := zt_lt i hi
  have h4 := zt_lt b hb
  have h5 := fi_inj (x := ((zt.getD i 0 : Nat) : Int)) (y := ((zt.getD b 0 : Nat) : Int)) (by omega) (by omega) h
  exact zt_inj i b hi hb (by omega)
theorem f_inv (x : F) (h : x ≠ 0) : ∃ y : F, y * x = 1 := by
  have hx : x = fi ((x.val : Nat) : Int) := by apply Fin.ext; rw [fi_val, zmod_nat, Nat.mod_eq_of_lt x.isLt]
  have h0 : x.val ≠ 0 := fun e => h (Fin.ext e)
  refine ⟨fi ((x.val ^ 3327 : Nat) : Int), ?_⟩
  have e : fi ((x.val ^ 3327 : Nat) : Int) * fi ((x.val : Nat) : Int) = 1 := by
    rw [← fi_muln, ← Nat.pow_succ, fi_eq (n := 1) (by rw [fermat _ h0 x.isLt])]; rfl
  rw [← hx] at e; exact e
theorem pow_tele (r : F) : ∀ n, (r - 1) * sm (fun j => r ^ j) n = r ^ n - 1
  | 0 => by rw [pwZ]; simp only [sm]; grind
  | n + 1 => by
    have h := pow_tele r n
    rw [sm, pwS]; grind
theorem mul_pow (a b : F) (n : Nat) : (a * b) ^ n = a ^ n * b ^ n := by
  induction n with
  | zero => rw [pwZ, pwZ, pwZ]; grind
  | succ n ih => rw [pwS, pwS, pwS, ih]; grind
theorem sm_ones : ∀ n : Nat, sm (fun j => (1 : F) ^ j) n = fi (n : Int)
  | 0 => rfl
  | n + 1 => by
    have h1 : (1 : F) ^ n = 1 := by
      induction n with
      | zero => rw [pwZ]
      | succ n ih => rw [pwS, ih]; grind
    rw [sm, sm_ones n, fi_addn, h1]; rfl
/-- Orthogonality. -/
theorem orth (i b : Nat) (hi : i < 128) (hb : b < 128) : fi 3303 * sm (fun j => (wi i * zr b) ^ j) 128 = if i = b then 1 else 0 := by
  by_cases e : i = b
  · subst e
    rw [if_pos rfl, wz i hi, sm_ones]; decide +kernel
  · rw [if_neg e]
    have h1 := pow_tele (wi i * zr b) 128
    rw [mul_pow, wi128 i hi, zr128 b hb] at h1
    have hne : wi i * zr b - 1 ≠ 0 := fun h => e (zr_inj i b hi hb (by have := wz i hi; grind))
    obtain ⟨y, hy⟩ := f_inv _ hne
    grind
end Go.Rx

/- Plain laws of layer 11: the document's way back, products, powers of X. No program and no memory here. -/
set_option maxRecDepth 100000
set_option linter.unusedVariables false
set_option exponentiation.threshold 4000
namespace Go.Rx
open Go.Rx.Na

/-! ### The document's way back -/
def riK (w : Nat) : Nat → Nat
  | 0 => 3303
  | j + 1 => riK w j * w % 3329
def riJ (p : List Int) (i : Nat) (out : List Int) : Nat → List Int
  | 0 => out
  | j + 1 => ((riJ p i out j).set (2 * j) (((tn (riJ p i out j) (2 * j) + tn p (2 * i) * riK (wN i) j) % 3329 : Nat) : Int)).set (2 * j + 1)
      (((tn ((riJ p i out j).set (2 * j) (((tn (riJ p i out j) (2 * j) + tn p (2 * i) * riK (wN i) j) % 3329 : Nat) : Int)) (2 * j + 1) + tn p (2 * i + 1) * riK (wN i) j) % 3329 : Nat) : Int)
def rivA (p : List Int) : Nat → List Int
  | 0 => List.replicate 256 0
  | i + 1 => riJ p i (rivA p i) 128
theorem riK_lt (w : Nat) : ∀ j, riK w j < 3329
  | 0 => (by decide : 3303 < 3329)
  | j + 1 => Nat.mod_lt _ (by decide)
theorem riK_fi (w : Nat) : ∀ j, fi ((riK w j : Nat) : Int) = fi 3303 * fi (w : Int) ^ j
  | 0 => by rw [pwZ]; simp only [riK]; show fi 3303 = _; grind
  | j + 1 => by rw [riK, fi_modn, fi_muln, riK_fi w j, pwS]; grind
theorem riJ_red (p : List Int) (i : Nat) {out : List Int} (h : Red out) : ∀ j, Red (riJ p i out j)
  | 0 => h
  | j + 1 => ((riJ_red p i h j).set _ (Nat.mod_lt _ (by decide))).set _ (Nat.mod_lt _ (by decide))
theorem riv_red (p : List Int) : ∀ i, Red (rivA p i)
  | 0 => red_rep
  | i + 1 => riJ_red p i (riv_red p i) 128
theorem riJ_fv {p : List Int} (hp : Red p) (i : Nat) {out : List Int} (h : Red out) : ∀ n, n ≤ 128 → ∀ j m, m < 2 → j < 128 → fv (riJ p i out n) (2 * j + m) = if j < n then fv out (2 * j + m) + fv p (2 * i + m) * (fi 3303 * wi i ^ j) else fv out (2 * j + m) := by
  intro n
  induction n with
  | zero => intro _ j m _ _; rw [riJ, if_neg (by omega)]
  | succ n ih =>
    intro hn j m hm hj
    have hr := riJ_red p i h n
    have hk := riK_fi (wN i) n
    rw [riJ]
    have e1 : Red ((riJ p i out n).set (2 * n) (((tn (riJ p i out n) (2 * n) + tn p (2 * i) * riK (wN i) n) % 3329 : Nat) : Int)) := hr.set _ (Nat.mod_lt _ (by decide))
    rw [fv_set e1.len (by omega), fi_modn, fi_addn, fi_muln, e1.fv, hp.fv, hk, fv_set hr.len (by omega), fv_set hr.len (by omega), fi_modn, fi_addn, fi_muln, hr.fv, hp.fv, hk, if_neg (show ¬ 2 * n = 2 * n + 1 by omega)]
    have i0 := ih (by omega) n 0 (by decide) (by omega)
    have i1 := ih (by omega) n 1 (by decide) (by omega)
    rw [if_neg (Nat.lt_irrefl n), Nat.add_zero] at i0
    rw [if_neg (Nat.lt_irrefl n)] at i1
    by_cases e : j = n
    · subst e
      rw [if_pos (show j < j + 1 by omega)]
      match m, hm with
      | 0, _ => rw [if_neg (show ¬ 2 * j + 1 = 2 * j + 0 by omega), if_pos (show 2 * j = 2 * j + 0 by omega), i0]; rfl
      | 1, _ => rw [if_pos rfl, i1]; rfl
    · rw [if_neg (show ¬ 2 * n + 1 = 2 * j + m by omega), if_neg (show ¬ 2 * n = 2 * j + m by omega), ih (by omega) j m hm hj]
      by_cases hl : j < n
      · rw [if_pos hl, if_pos (show j < n + 1 by omega)]
      · rw [if_neg hl, if_neg (show ¬ j < n + 1 by omega)]
theorem riv_fv {p : List Int} (hp : Red p) : ∀ n, n ≤ 128 → ∀ j m, m < 2 → j < 128 → fv (rivA p n) (2 * j + m) = sm (fun i => fv p (2 * i + m) * (fi 3303 * wi i ^ j)) n
  | 0, _, j, m, _, _ => fv_rep _
  | n + 1, h, j, m, hm, hj => by rw [rivA, riJ_fv hp n (riv_red p n) 128 (Nat.le_refl _) j m hm hj, if_pos hj, riv_fv hp n (by omega) j m hm hj, sm]
theorem cm (x y : F) : x * y = y * x := by grind
theorem fwd_riv (p : List Int) (hp : Red p) : fwd (rivA p 128) = p :=
  red_ext (fwd_red _ (riv_red p 128).len) hp fun j hj => by
    have h1 := fwd_fv (rivA p 128) (riv_red p 128).len (j / 2) (j % 2) (by omega) (by omega)
    rw [show 2 * (j / 2) + j % 2 = j by omega] at h1
    rw [h1]
    unfold ev2
    rw [sm_congr 128 (g := fun q => sm (fun i => fv p (2 * i + j % 2) * (fi 3303 * (wi i * zr (j / 2)) ^ q)) 128) (fun q hq => by
      rw [show j % 2 + 2 * q = 2 * q + j % 2 by omega, riv_fv hp 128 (Nat.le_refl _) q (j % 2) (by omega) hq, cm, ← sm_mul]
      exact sm_congr 128 fun i _ => by rw [mul_pow]; grind)]
    rw [sm_swap, sm_congr 128 (g := fun i => fv p (2 * i + j % 2) * (if i = j / 2 then 1 else 0)) (fun i hi => by
      rw [← orth i (j / 2) hi (by omega), sm_mul, sm_mul])]
    rw [sm_one _ (j / 2) 128 (fun i _ hne => by rw [if_neg hne]; grind), if_pos (by omega), if_pos rfl, show 2 * (j / 2) + j % 2 = j by omega]; grind
theorem inv_eq (p : List Int) (hp : p.length = 256) : inv p = rivA (cl p) 128 := by
  have h := inv_fwd (rivA (cl p) 128) (riv_red _ _).len
  rw [fwd_riv _ (cl_red p hp), cl_of_red (riv_red _ _), inv_cl p hp] at h
  exact h

/-! ### Times -/
def zT (i : Nat) : Int := ((zmul ((zmul ((zz (i : Int) 7 : Nat) : Int) ((zz (i : Int) 7 : Nat) : Int) : Nat) : Int) 17 : Nat) : Int)
def tmA (p q : List Int) : Nat → List Int
  | 0 => List.replicate 256 0
  | i + 1 => ((tmA p q i).set (2 * i) ((zadd ((zmul (p.getD (2 * i) 0) (q.getD (2 * i) 0) : Nat) : Int) ((zmul ((zmul (p.getD (2 * i + 1) 0) (q.getD (2 * i + 1) 0) : Nat) : Int) (zT i) : Nat) : Int) : Nat) : Int)).set (2 * i + 1)
      ((zadd ((zmul (p.getD (2 * i) 0) (q.getD (2 * i + 1) 0) : Nat) : Int) ((zmul (p.getD (2 * i + 1) 0) (q.getD (2 * i) 0) : Nat) : Int) : Nat) : Int)
def tms (p q : List Int) : List Int := tmA (cl p) (cl q) 128
theorem zT_root : ∀ i, i < 128 → fi (zT i) = zr i := by decide +kernel
/-- The product's even and odd part. -/
def pm (z a0 a1 b0 b1 : F) (m : Nat) : F := if m = 0 then a0 * b0 + a1 * b1 * z else a0 * b1 + a1 * b0
theorem tm_red (p q : List Int) : ∀ i, Red (tmA p q i)
  | 0 => red_rep
  | i + 1 => ((tm_red p q i).set _ (zmod_lt _)).set _ (zmod_lt _)
theorem tm_fv (p q : List Int) : ∀ n, n ≤ 128 → ∀ b m, m < 2 → b < n → fv (tmA p q n) (2 * b + m) = pm (zr b) (fv p (2 * b)) (fv p (2 * b + 1)) (fv q (2 * b)) (fv q (2 * b + 1)) m := by
  intro n
  induction n with
  | zero => intro _ b m _ hb; omega
  | succ n ih =>
    intro hn b m hm hb
    rw [tmA, fv_set (by rw [List.length_set, (tm_red p q n).len]) (by omega), fv_set (tm_red p q n).len (by omega), fi_add, fi_add, fi_mul, fi_mul, fi_mul, fi_mul, fi_mul, zT_root n (by omega)]
    by_cases e : b = n
    · subst e
      match m, hm with
      | 0, _ => rw [if_neg (show ¬ 2 * b + 1 = 2 * b + 0 by omega), if_pos (show 2 * b = 2 * b + 0 by omega)]; rfl
      | 1, _ => rw [if_pos rfl]; rfl
    · rw [if_neg (show ¬ 2 * n + 1 = 2 * b + m by omega), if_neg (show ¬ 2 * n = 2 * b + m by omega)]; exact ih (by omega) b m hm (by omega)
theorem tms_red (p q : List Int) : Red (tms p q) := tm_red _ _ 128
theorem tms_fv (p q : List Int) (hp : p.length = 256) (hq : q.length = 256) (b m : Nat) (hb : b < 128) (hm : m < 2) : fv (tms p q) (2 * b + m) = pm (zr b) (fv p (2 * b)) (fv p (2 * b + 1)) (fv q (2 * b)) (fv q (2 * b + 1)) m := by
  rw [tms, tm_fv _ _ 128 (Nat.le_refl _) b m hm hb, cl_fv p hp _ (by omega), cl_fv p hp _ (by omega), cl_fv q hq _ (by omega), cl_fv q hq _ (by omega)]
/-- Two lists of rests are one, if they are so pair by pair. -/
theorem red_ext2 {l m : List Int} (hl : Red l) (hm : Red m) (h : ∀ b, b < 128 → ∀ k, k < 2 → fv l (2 * b + k) = fv m (2 * b + k)) : l = m :=
  red_ext hl hm fun j hj => by have := h (j / 2) (by omega) (j % 2) (by omega); rwa [show 2 * (j / 2) + j % 2 = j by omega] at this
def rtmA (p q : List Int) : Nat → List Int
  | 0 => List.replicate 256 0
  | i + 1 => ((rtmA p q i).set (2 * i) (((tn p (2 * i) * tn q (2 * i) + tn p (2 * i + 1) * tn q (2 * i + 1) % 3329 * rootN i) % 3329 : Nat) : Int)).set (2 * i + 1)
      (((tn p (2 * i) * tn q (2 * i + 1) + tn p (2 * i + 1) * tn q (2 * i)) % 3329 : Nat) : Int)
theorem rtm_red (p q : List Int) : ∀ i, Red (rtmA p q i)
  | 0 => red_rep
  | i + 1 => ((rtm_red p q i).set _ (Nat.mod_lt _ (by decide))).set _ (Nat.mod_lt _ (by decide))
theorem rtm_fv {p q : List Int} (hp : Red p) (hq : Red q) : ∀ n, n ≤ 128 → ∀ b m, m < 2 → b < n → fv (rtmA p q n) (2 * b + m) = pm (zr b) (fv p (2 * b)) (fv p (2 * b + 1)) (fv q (2 * b)) (fv q (2 * b + 1)) m := by
  intro n
  induction n with
  | zero => intro _ b m _ hb; omega
  | succ n ih =>
    intro hn b m hm hb
    rw [rtmA, fv_set (by rw [List.length_set, (rtm_red p q n).len]) (by omega), fv_set (rtm_red p q n).len (by omega), fi_modn, fi_modn, fi_addn, fi_addn, fi_muln, fi_muln, fi_muln, fi_muln, fi_modn, fi_muln, hp.fv, hp.fv, hq.fv, hq.fv]
    by_cases e : b = n
    · subst e
      match m, hm with
      | 0, _ => rw [if_neg (show ¬ 2 * b + 1 = 2 * b + 0 by omega), if_pos (show 2 * b = 2 * b + 0 by omega)]; rfl
      | 1, _ => rw [if_pos rfl]; rfl
    · rw [if_neg (show ¬ 2 * n + 1 = 2 * b + m by omega), if_neg (show ¬ 2 * n = 2 * b + m by omega)]; exact ih (by omega) b m hm (by omega)
theorem tms_eq (p q : List Int) (hp : p.length = 256) (hq : q.length = 256) : tms p q = rtmA (cl p) (cl q) 128 :=
  red_ext2 (tms_red p q) (rtm_red _ _ _) fun b hb m hm => by rw [tms, tm_fv _ _ 128 (Nat.le_refl _) b m hm hb, rtm_fv (cl_red p hp) (cl_red q hq) 128 (Nat.le_refl _) b m hm hb]

/-! ### Products -/
/-! ### Laws -/
/-! ### Powers of X -/
end Go.Rx

/- awake's values of layer 11. No program and no memory here. -/
set_option maxRecDepth 100000
namespace Go.Rx
open Go.Rx.Na
theorem rpow_lt (a : Int) (n : Nat) : rpow a n < 3329 := by unfold rpow; split; decide; exact rp_lt _ _
theorem rootN_lt (i : Nat) : rootN i < 3329 := rpow_lt _ _
theorem wN_lt (i : Nat) : wN i < 3329 := rpow_lt _ _
end Go.Rx
