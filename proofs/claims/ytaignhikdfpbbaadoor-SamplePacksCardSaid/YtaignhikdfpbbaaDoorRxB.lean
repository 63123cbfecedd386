/- A region that draws its order: one canonical order serves, if a Bool holds ('canonB') and each operation that is called steady yields one value in every world that meets S. Behind number n, which waits for all others, S is not asked. -/
import Derived.Test.YtaignhikdfpbbaaDoorRxA
namespace Go.Rx
open Go.RowKit

section
variable {P : Program} {ops : Array Oper} {Q : Exit → Act → World → Prop} {S : World → Prop} {T : List Nat}

/-- What is listed has all that it waits for listed, too. -/
def Closed (ops : Array Oper) (listed : Array Bool) : Prop := ∀ j oj, ops[j]? = some oj → listed.getD j false = true → ∀ e ∈ oj.after, Region.binds .any e = true → listed.getD e.on false = true
theorem Closed.add {listed : Array Bool} {j : Nat} (h : Closed ops listed) (hj : j ∈ Region.ready .any ops listed) : Closed ops (listed.setIfInBounds j true) := by
  intro k ok hk hl e he hb
  by_cases hjk : j = k
  · subst hjk
    obtain ⟨_, o, ho, hall⟩ := mem_ready.1 hj
    rw [ho] at hk
    cases hk
    exact getD_set_true (hall e he hb)
  · rw [getD_set_ne false hjk] at hl
    exact getD_set_true (h k ok hk hl e he hb)

/-- Number t waits for number i, directly or through others. -/
def waitsB (ops : Array Oper) : Nat → Nat → Nat → Bool
  | 0, _, _ => false
  | f + 1, t, i => match ops[t]? with
    | none => false
    | some o => o.after.any fun e => Region.binds .any e && (Nat.beq e.on i || waitsB ops f e.on i)
theorem waitsB_listed {listed : Array Bool} (hc : Closed ops listed) {i : Nat} : ∀ (f t : Nat), waitsB ops f t i = true → (∀ o, ops[t]? = some o → ∀ e ∈ o.after, Region.binds .any e = true → listed.getD e.on false = true) → listed.getD i false = true
  | 0, t, h, _ => by simp [waitsB] at h
  | f + 1, t, h, hr => by
    unfold waitsB at h
    cases ho : ops[t]? with
    | none => rw [ho] at h; cases h
    | some o =>
      rw [ho] at h
      obtain ⟨e, he, hb⟩ := Array.any_eq_true'.1 h
      simp only [Bool.and_eq_true, Bool.or_eq_true] at hb
      have hl := hr o ho e he hb.1
      rcases hb.2 with h1 | h1
      · rwa [Nat.eq_of_beq_eq_true h1] at hl
      · exact waitsB_listed hc f e.on h1 (fun o' ho' e' he' hb' => hc e.on o' ho' hl e' he' hb')

/-- Each number of the tail waits for all that are not of it. -/
def tailB (ops : Array Oper) (T : List Nat) : Bool := T.all fun t => (List.range ops.size).all fun i => T.contains i || waitsB ops ops.size t i
theorem tailB_spec {i t : Nat} {oi : Oper} (hi : ops[i]? = some oi) (h : tailB ops T = true) (listed : Array Bool) (hc : Closed ops listed) (ht : T.contains t = true) (hr : t ∈ Region.ready .any ops listed) (hl : listed.getD i true = false) : T.contains i = true := by
  have hlt : i < ops.size := (Array.getElem?_eq_some_iff.1 hi).1
  have h1 := List.all_eq_true.1 h t (by simpa using ht)
  have h2 := List.all_eq_true.1 h1 i (by simpa using hlt)
  simp only [Bool.or_eq_true] at h2
  rcases h2 with h2 | h2
  · exact h2
  · obtain ⟨_, o, ho, hall⟩ := mem_ready.1 hr
    have h3 := waitsB_listed hc _ _ h2 (fun o' ho' e he hb => by rw [ho] at ho'; cases ho'; exact hall e he hb)
    rcases Nat.lt_or_ge i listed.size with h' | h'
    · simp [h'] at hl h3; rw [hl] at h3; cases h3
    · simp [Array.getElem?_eq_none h'] at h3

/-- Whatever order is picked: with f operations to come. S holds behind each operation that is not of the tail. -/
def AnyF (P : Program) (ops : Array Oper) (Q : Exit → Act → World → Prop) (S : World → Prop) (T : List Nat) : Nat → Array Bool → Act → World → Prop
  | 0, listed, a, w => Region.ready .any ops listed = [] ∧ Q .normal a w
  | f + 1, listed, a, w => Region.ready .any ops listed ≠ [] ∧
    ∀ i ∈ Region.ready .any ops listed, wpOp P ops Q i (fun a' w' => (T.contains i = false → S w') ∧ AnyF P ops Q S T f (listed.setIfInBounds i true) a' w') a w

theorem any_of_AnyF : ∀ (f : Nat) (listed : Array Bool) (a : Act) (w : World), AnyF P ops Q S T f listed a w → wpAny P .any ops Q f listed a w
  | 0, _, _, _, h => h
  | f + 1, _, _, _, h => ⟨fun e => absurd e h.1, fun i hi => wpOp_mono (fun a' w' h' => any_of_AnyF f _ a' w' h'.2) (h.2 i hi)⟩

theorem AnyF_first {i : Nat} {oi : Oper} {v : Value} (hi : ops[i]? = some oi) (hit : T.contains i = false) (hsel : ∀ (j : Nat) (o : Oper) cs b, ops[j]? = some o → o.op ≠ .select cs b)
    (hQ : ∀ c a w, Q (.panic c) (a.put oi.dst v) w → Q (.panic c) a w) (hlast : tailB ops T = true) :
    ∀ (f : Nat) (listed : Array Bool) (a : Act) (w : World), Closed ops listed →
      (∀ j oj, ops[j]? = some oj → j ≠ i → listed.getD j true = false → (∀ e ∈ oj.after, Region.binds .any e = true → e.on ≠ i) → oi.apart ops oj = true) →
      i ∈ Region.ready .any ops listed → YieldsIf P ops S oi v a → S w →
      AnyF P ops Q S T f (listed.setIfInBounds i true) (a.put oi.dst v) w → AnyF P ops Q S T (f + 1) listed a w := by
  intro f
  induction f with
  | zero =>
    intro listed a w _ _ hr hy hS H
    refine ⟨fun e => (by rw [e] at hr; cases hr), fun j hj => ?_⟩
    by_cases hji : j = i
    · subst hji; exact hy.wpOp hi hS ⟨fun _ => hS, H⟩
    · have hm := ready_mono hj hji
      rw [H.1] at hm
      cases hm
  | succ f ih =>
    intro listed a w hcl hfree hr hy hS H
    refine ⟨fun e => (by rw [e] at hr; cases hr), fun j hj => ?_⟩
    by_cases hji : j = i
    · subst hji; exact hy.wpOp hi hS ⟨fun _ => hS, H⟩
    · have h1 := H.2 j (ready_mono hj hji)
      obtain ⟨hjun, oj, hoj, hall⟩ := mem_ready.1 hj
      have hnot : ∀ e ∈ oj.after, Region.binds .any e = true → e.on ≠ i := by
        intro e he hb heq
        have hl := hall e he hb
        have h0 := (mem_ready.1 hr).1
        rw [heq] at hl
        rcases Nat.lt_or_ge i listed.size with h' | h'
        · simp [h'] at h0 hl; rw [h0] at hl; cases hl
        · simp [Array.getElem?_eq_none h'] at hl
      have h2 := wpOp_putIf hoj (hfree j oj hoj hji hjun hnot) (fun cs b => hsel i oi cs b hi) (fun cs b => hsel j oj cs b hoj) hQ hy h1
      have hfree' : ∀ k ok, ops[k]? = some ok → k ≠ i → (listed.setIfInBounds j true).getD k true = false →
          (∀ e ∈ ok.after, Region.binds .any e = true → e.on ≠ i) → oi.apart ops ok = true := by
        intro k ok hk hki hun hno
        refine hfree k ok hk hki ?_ hno
        by_cases hjk : j = k
        · subst hjk; exact hjun
        · rw [getD_set_ne true hjk] at hun; exact hun
      have hjn : T.contains j = false := by
        cases hT : T.contains j with
        | false => rfl
        | true => rw [tailB_spec hi hlast listed hcl hT hj (mem_ready.1 hr).1] at hit; cases hit
      refine wpOp_mono (fun a' w' h3 => ?_) h2
      obtain ⟨hy', hS', hA'⟩ := h3
      refine ⟨hS', ih (listed.setIfInBounds j true) a' w' (hcl.add hj) hfree' (ready_mono hr (Ne.symm hji)) hy' (hS' hjn) ?_⟩
      rw [Array.setIfInBounds_comm _ _ hji]
      exact hA'

/-- The canonical order: 'st' are the steady ones. -/
def orderB (ops : Array Oper) (st : List Nat) : List Nat → Array Bool → Bool
  | [], listed => (Region.ready .any ops listed).isEmpty
  | i :: r, listed => (Region.ready .any ops listed).contains i && (if st.contains i then Region.free .any ops listed i else (Region.ready .any ops listed).all (Nat.beq i)) && orderB ops st r (listed.setIfInBounds i true)
/-- Behind the first number of the tail none is steady. -/
def restB (st T : List Nat) : List Nat → Bool
  | [] => true
  | i :: r => (if T.contains i then (i :: r).all (fun k => !st.contains k) else true) && restB st T r

def canonB (ops : Array Oper) (st T : List Nat) (ord : List Nat) : Bool :=
  Region.noSelect ops && tailB ops T && Nat.beq ord.length ops.size && orderB ops st ord (Array.replicate ops.size false) && restB st T ord

/-- The walk of the canonical order. Behind an operation that is not steady, when it is the only one that may come, S may be strengthened. -/
def wpC (P : Program) (ops : Array Oper) (Q : Exit → Act → World → Prop) (S : World → Prop) (T : List Nat) (st : List Nat) : List Nat → Act → World → Prop
  | [], a, w => Q .normal a w
  | i :: r, a, w => ∃ o, ops[i]? = some o ∧
    if st.contains i then ∃ v, YieldsIf P ops S o v a ∧ wpC P ops Q S T st r (a.put o.dst v) w
    else wpOp P ops Q i (fun a' w' => ∃ S' : World → Prop, (∀ w, S' w → S w) ∧ (T.contains i = false → S' w') ∧ wpC P ops Q S' T st r a' w') a w

theorem AnyF_mono {S' : World → Prop} (hle : ∀ w, S' w → S w) : ∀ (f : Nat) (listed : Array Bool) (a : Act) (w : World), AnyF P ops Q S' T f listed a w → AnyF P ops Q S T f listed a w
  | 0, _, _, _, h => h
  | f + 1, _, _, _, h => ⟨h.1, fun i hi => wpOp_mono (fun a' w' h' => ⟨fun hT => hle _ (h'.1 hT), AnyF_mono hle f _ a' w' h'.2⟩) (h.2 i hi)⟩

theorem AnyF_of_wpC {st : List Nat} (hsel : Region.noSelect ops = true) (hlast : tailB ops T = true) (hQ : ∀ c a w, ¬ Q (.panic c) a w) :
    ∀ (ord : List Nat) (S : World → Prop) (listed : Array Bool) (a : Act) (w : World), Closed ops listed → orderB ops st ord listed = true → restB st T ord = true → ((∃ k ∈ ord, st.contains k = true) → S w) →
      wpC P ops Q S T st ord a w → AnyF P ops Q S T ord.length listed a w
  | [], _, _, _, _, _, hB, _, _, h => ⟨by simpa [orderB] using hB, h⟩
  | i :: r, S, listed, a, w, hcl, hB, hR, hS, h => by
    simp only [orderB, Bool.and_eq_true] at hB
    obtain ⟨⟨hr, hf⟩, hB'⟩ := hB
    simp only [restB, Bool.and_eq_true] at hR
    obtain ⟨hR0, hR'⟩ := hR
    obtain ⟨o, ho, h⟩ := h
    have hir : i ∈ Region.ready .any ops listed := by simpa using hr
    by_cases hc : st.contains i = true
    · rw [if_pos hc] at h hf
      obtain ⟨v, hy, h⟩ := h
      have hw := hS ⟨i, by simp, hc⟩
      have hit : T.contains i = false := by
        cases hT : T.contains i with
        | false => rfl
        | true => rw [if_pos hT] at hR0; have := List.all_eq_true.1 hR0 i (by simp); rw [hc] at this; cases this
      exact AnyF_first ho hit (Region.noSelect_spec hsel) (fun c a w hq => absurd hq (hQ c _ w)) hlast r.length listed a w hcl (Region.free_spec ho hf) hir hy hw
        (AnyF_of_wpC hsel hlast hQ r S _ _ w (hcl.add hir) hB' hR' (fun _ => hw) h)
    · rw [if_neg hc] at h hf
      have hall : ∀ k ∈ Region.ready .any ops listed, k = i := fun k hk => (Nat.eq_of_beq_eq_true (List.all_eq_true.1 hf k hk)).symm
      refine ⟨fun e => by rw [e] at hr; simp at hr, fun k hk => ?_⟩
      rw [hall k hk]
      refine wpOp_mono (fun a' w' h' => ?_) h
      obtain ⟨S', hle, hS', h'⟩ := h'
      refine ⟨fun hT => hle _ (hS' hT), AnyF_mono hle _ _ _ _ (AnyF_of_wpC hsel hlast hQ r S' _ a' w' (hcl.add hir) hB' hR' (fun hex => ?_) h')⟩
      cases hT : T.contains i with
      | false => exact hS' hT
      | true =>
        exfalso
        rw [if_pos hT] at hR0
        obtain ⟨k', hk', hst'⟩ := hex
        have := List.all_eq_true.1 hR0 k' (List.mem_cons_of_mem _ hk')
        rw [hst'] at this; cases this

/-- A region that draws its order. -/
theorem regionC {id : Nat} {a : Act} {w : World} {l : List Oper} (S : World → Prop) (T st ord : List Nat) (hm : P.follows .mixedOrders = true)
    (hB : canonB l.toArray st T ord = true) (hS : S { w with drawn := w.drawn + 1 })
    (h : wpC P l.toArray (NoPanic Q) S T st ord a { w with drawn := w.drawn + 1 }) : (Code.region id l.toArray true).wp P Q a w := by
  simp only [canonB, Bool.and_eq_true] at hB
  obtain ⟨⟨⟨⟨h1, h2⟩, h3⟩, h4⟩, h5⟩ := hB
  refine wp_region_noPanic (wp_region_any hm ?_)
  have hlen : ord.length = l.toArray.size := Nat.eq_of_beq_eq_true h3
  rw [← hlen]
  refine any_of_AnyF _ _ _ _ (AnyF_of_wpC h1 h2 (fun c a w hq => hq) ord S _ a _ (fun j oj _ hl => ?_) (by rw [hlen]; exact h4) h5 (fun _ => hS) h)
  exfalso
  rcases Nat.lt_or_ge j (Array.replicate ord.length false).size with h' | h'
  · simp [Array.getElem?_replicate] at hl
    split at hl <;> simp at hl
  · simp [Array.getElem?_eq_none h'] at hl

/-- The same, the world behind the draw behind a name. -/
theorem regionD {id : Nat} {a : Act} {w : World} {l : List Oper} (S : World → Prop) (T st ord : List Nat) (hm : P.follows .mixedOrders = true)
    (hB : canonB l.toArray st T ord = true) (hS : ∀ w', w.grownBy w' none → S w')
    (h : ∀ w', w.grownBy w' none → wpC P l.toArray (NoPanic Q) S T st ord a w') : (Code.region id l.toArray true).wp P Q a w :=
  have hg : w.grownBy { w with drawn := w.drawn + 1 } none := ⟨rfl, rfl, rfl, Nat.le_refl _, fun _ _ _ => rfl⟩
  regionC S T st ord hm hB (hS _ hg) (h _ hg)

/-! ### The moves -/
variable {st : List Nat} {i : Nat} {r : List Nat} {a : Act} {w w' : World} {o : Oper} {m : Nat} {env : Env} {v : Value}

theorem cfin (h : Q .normal a w) : wpC P ops (NoPanic Q) S T st [] a w := h

/-- A steady one. -/
theorem cv (ha : Has m env a) {d : Nat} (hi : ops[i]? = some o) (hc : st.contains i = true) (hrun : ∀ w, S w → (execOp a.eval o).run P w = .ok (.value v) w) (hg : o.guard = none) (hd : o.dst = some d) (hn : Nat.blt d m = true)
    (k : ∀ a', Has m ((d, v) :: env) a' → wpC P ops Q S T st r a' w) : wpC P ops Q S T st (i :: r) a w := by
  refine ⟨o, hi, ?_⟩
  rw [if_pos hc]
  refine ⟨v, .inl ⟨wanted_none hg _, hrun⟩, ?_⟩
  rw [hd]
  exact k _ (ha.put hn v)

/-- A steady one under a guard that says yes. -/
theorem cvg (ha : Has m env a) {d j s : Nat} {want : Bool} (hi : ops[i]? = some o) (hc : st.contains i = true) (hrun : ∀ w, S w → (execOp a.eval o).run P w = .ok (.value v) w) (hg : o.guard = some (j, want)) (hj : (ops[j]?).bind (·.dst) = some s) (hs : look env s = some (.bool want)) (hd : o.dst = some d) (hn : Nat.blt d m = true)
    (k : ∀ a', Has m ((d, v) :: env) a' → wpC P ops Q S T st r a' w) : wpC P ops Q S T st (i :: r) a w := by
  refine ⟨o, hi, ?_⟩
  rw [if_pos hc]
  refine ⟨v, .inl ⟨guard_yes ha hg hj hs, hrun⟩, ?_⟩
  rw [hd]
  exact k _ (ha.put hn v)

/-- One under a guard that says no is steady. -/
theorem cno (ha : Has m env a) {d j s : Nat} {b want : Bool} (hi : ops[i]? = some o) (hc : st.contains i = true) (hg : o.guard = some (j, want)) (hj : (ops[j]?).bind (·.dst) = some s) (hs : look env s = some (.bool b)) (hne : b = !want) (hd : o.dst = some d) (hn : Nat.blt d m = true)
    (k : ∀ a', Has m ((d, undef) :: env) a' → wpC P ops Q S T st r a' w) : wpC P ops Q S T st (i :: r) a w := by
  have hy := yielded_of (ops := ops) ha hj hs
  refine ⟨o, hi, ?_⟩
  rw [if_pos hc]
  refine ⟨undef, .inr ⟨by simp [Region.wanted, hg, hy, hne], rfl⟩, ?_⟩
  rw [hd]
  exact k _ (ha.put hn undef)

/-- One that changes the world and yields a value (an alloc, an append). -/
theorem cw (ha : Has m env a) {d : Nat} (hi : ops[i]? = some o) (hc : st.contains i = false) (hrun : (execOp a.eval o).run P w = .ok (.value v) w') (hg : o.guard = none) (hd : o.dst = some d) (hn : Nat.blt d m = true) (hS : T.contains i = false → S w')
    (k : ∀ a', Has m ((d, v) :: env) a' → wpC P ops Q S T st r a' w') : wpC P ops Q S T st (i :: r) a w := by
  refine ⟨o, hi, ?_⟩
  rw [if_neg (by rw [hc]; simp)]
  unfold wpOp
  simp only [hi]
  rw [if_pos (wanted_none hg _)]
  refine .inl ?_
  unfold Oper.wp
  rw [hrun, Oper.upon_value, hd]
  exact ⟨S, fun _ h => h, hS, k _ (ha.put hn v)⟩

/-- A store. -/
theorem cs (ha : Has m env a) (hi : ops[i]? = some o) (hc : st.contains i = false) (hrun : (execOp a.eval o).run P w = .ok .skip w') (hg : o.guard = none) (hd : o.dst = none) (hS : T.contains i = false → S w')
    (k : ∀ a', Has m env a' → wpC P ops Q S T st r a' w') : wpC P ops Q S T st (i :: r) a w := by
  refine ⟨o, hi, ?_⟩
  rw [if_neg (by rw [hc]; simp)]
  unfold wpOp
  simp only [hi]
  rw [if_pos (wanted_none hg _)]
  refine .inl ?_
  unfold Oper.wp
  rw [hrun, Oper.upon_skip, hd]
  exact ⟨S, fun _ h => h, hS, k _ ha⟩

/-- A call. -/
theorem cc (ha : Has m env a) {d : Nat} {f : FuncId} {args : Array Value} {R : Ending → World → Prop} (hi : ops[i]? = some o) (hc : st.contains i = false) (hrun : (execOp a.eval o).run P w = .ok (.enter f args) w') (hg : o.guard = none) (hd : o.dst = some d) (hn : Nat.blt d m = true)
    (hcall : Calls P f args w' R) (k : ∀ e w'', R e w'' → (T.contains i = false → S w'') ∧ ∃ v, e = .returned v ∧ ∀ a', Has m ((d, v) :: env) a' → wpC P ops Q S T st r a' w'') : wpC P ops Q S T st (i :: r) a w := by
  refine ⟨o, hi, ?_⟩
  rw [if_neg (by rw [hc]; simp)]
  unfold wpOp
  simp only [hi]
  rw [if_pos (wanted_none hg _)]
  refine .inl ?_
  unfold Oper.wp
  rw [hrun, Oper.upon_enter, hd]
  refine hcall.mono fun e w'' hR => ?_
  obtain ⟨hS, v, rfl, k'⟩ := k e w'' hR
  exact ⟨S, fun _ h => h, hS, k' _ (ha.put hn v)⟩

/-- A call that nobody takes the result of. -/
theorem cc0 (ha : Has m env a) {f : FuncId} {args : Array Value} {R : Ending → World → Prop} (hi : ops[i]? = some o) (hc : st.contains i = false) (hrun : (execOp a.eval o).run P w = .ok (.enter f args) w') (hg : o.guard = none) (hd : o.dst = none)
    (hcall : Calls P f args w' R) (k : ∀ e w'', R e w'' → (T.contains i = false → S w'') ∧ ∃ v, e = .returned v ∧ ∀ a', Has m env a' → wpC P ops Q S T st r a' w'') : wpC P ops Q S T st (i :: r) a w := by
  refine ⟨o, hi, ?_⟩
  rw [if_neg (by rw [hc]; simp)]
  unfold wpOp
  simp only [hi]
  rw [if_pos (wanted_none hg _)]
  refine .inl ?_
  unfold Oper.wp
  rw [hrun, Oper.upon_enter, hd]
  refine hcall.mono fun e w'' hR => ?_
  obtain ⟨hS, v, rfl, k'⟩ := k e w'' hR
  exact ⟨S, fun _ h => h, hS, k' _ ha⟩

/-- A call under a guard that says yes. -/
theorem ccg (ha : Has m env a) {d j s : Nat} {want : Bool} {f : FuncId} {args : Array Value} {R : Ending → World → Prop} (hi : ops[i]? = some o) (hc : st.contains i = false) (hrun : (execOp a.eval o).run P w = .ok (.enter f args) w') (hg : o.guard = some (j, want)) (hj : (ops[j]?).bind (·.dst) = some s) (hs : look env s = some (.bool want)) (hd : o.dst = some d) (hn : Nat.blt d m = true)
    (hcall : Calls P f args w' R) (k : ∀ e w'', R e w'' → (T.contains i = false → S w'') ∧ ∃ v, e = .returned v ∧ ∀ a', Has m ((d, v) :: env) a' → wpC P ops Q S T st r a' w'') : wpC P ops Q S T st (i :: r) a w := by
  refine ⟨o, hi, ?_⟩
  rw [if_neg (by rw [hc]; simp)]
  unfold wpOp
  simp only [hi]
  rw [if_pos (guard_yes ha hg hj hs)]
  refine .inl ?_
  unfold Oper.wp
  rw [hrun, Oper.upon_enter, hd]
  refine hcall.mono fun e w'' hR => ?_
  obtain ⟨hS, v, rfl, k'⟩ := k e w'' hR
  exact ⟨S, fun _ h => h, hS, k' _ (ha.put hn v)⟩
/-- A call whose result's fact is taken into S. -/
theorem ccx (ha : Has m env a) {d : Nat} {f : FuncId} {args : Array Value} {R : Ending → World → Prop} (hi : ops[i]? = some o) (hc : st.contains i = false) (hrun : (execOp a.eval o).run P w = .ok (.enter f args) w') (hg : o.guard = none) (hd : o.dst = some d) (hn : Nat.blt d m = true)
    (hcall : Calls P f args w' R) (k : ∀ e w'', R e w'' → ∃ S' : World → Prop, (∀ w, S' w → S w) ∧ (T.contains i = false → S' w'') ∧ ∃ v, e = .returned v ∧ ∀ a', Has m ((d, v) :: env) a' → wpC P ops Q S' T st r a' w'') : wpC P ops Q S T st (i :: r) a w := by
  refine ⟨o, hi, ?_⟩
  rw [if_neg (by rw [hc]; simp)]
  unfold wpOp
  simp only [hi]
  rw [if_pos (wanted_none hg _)]
  refine .inl ?_
  unfold Oper.wp
  rw [hrun, Oper.upon_enter, hd]
  refine hcall.mono fun e w'' hR => ?_
  obtain ⟨S', hle, hS, v, rfl, k'⟩ := k e w'' hR
  exact ⟨S', hle, hS, k' _ (ha.put hn v)⟩
theorem ccgx (ha : Has m env a) {d j s : Nat} {want : Bool} {f : FuncId} {args : Array Value} {R : Ending → World → Prop} (hi : ops[i]? = some o) (hc : st.contains i = false) (hrun : (execOp a.eval o).run P w = .ok (.enter f args) w') (hg : o.guard = some (j, want)) (hj : (ops[j]?).bind (·.dst) = some s) (hs : look env s = some (.bool want)) (hd : o.dst = some d) (hn : Nat.blt d m = true)
    (hcall : Calls P f args w' R) (k : ∀ e w'', R e w'' → ∃ S' : World → Prop, (∀ w, S' w → S w) ∧ (T.contains i = false → S' w'') ∧ ∃ v, e = .returned v ∧ ∀ a', Has m ((d, v) :: env) a' → wpC P ops Q S' T st r a' w'') : wpC P ops Q S T st (i :: r) a w := by
  refine ⟨o, hi, ?_⟩
  rw [if_neg (by rw [hc]; simp)]
  unfold wpOp
  simp only [hi]
  rw [if_pos (guard_yes ha hg hj hs)]
  refine .inl ?_
  unfold Oper.wp
  rw [hrun, Oper.upon_enter, hd]
  refine hcall.mono fun e w'' hR => ?_
  obtain ⟨S', hle, hS, v, rfl, k'⟩ := k e w'' hR
  exact ⟨S', hle, hS, k' _ (ha.put hn v)⟩
/-- One that changes the world and yields a value, whose fact is taken into S. -/
theorem cwx (ha : Has m env a) {d : Nat} (hi : ops[i]? = some o) (hc : st.contains i = false) (hrun : (execOp a.eval o).run P w = .ok (.value v) w') (hg : o.guard = none) (hd : o.dst = some d) (hn : Nat.blt d m = true)
    (k : ∃ S' : World → Prop, (∀ w, S' w → S w) ∧ (T.contains i = false → S' w') ∧ ∀ a', Has m ((d, v) :: env) a' → wpC P ops Q S' T st r a' w') : wpC P ops Q S T st (i :: r) a w := by
  refine ⟨o, hi, ?_⟩
  rw [if_neg (by rw [hc]; simp)]
  unfold wpOp
  simp only [hi]
  rw [if_pos (wanted_none hg _)]
  refine .inl ?_
  unfold Oper.wp
  rw [hrun, Oper.upon_value, hd]
  obtain ⟨S', hle, hS, k'⟩ := k
  exact ⟨S', hle, hS, k' _ (ha.put hn v)⟩
end
end Go.Rx
