/- Texts of this claim, one behind the other: RxA, RxB, RxC, RxD, Pk, RxE, RxF, RxG, RxH, RxS, K0, K1, Pr, Pe, K2, RxI, Sk, Q1, Q2, Kn, Aw, Sr, Se, Hk, H1, RxJ. -/
import Derived.WalkKit
import Derived.OrdersHeld
import Derived.Deep.RegionHeld3
import Derived.Laws.CopyOwn
import Derived.Test.YtdhgkfmniebghaaDoorRows
import Derived.KernelRfl
import Derived.Laws.IdiomStrings
set_option linter.unusedVariables false
set_option linter.unusedSimpArgs false
/- A small calculus for walking Go functions: a frame is told by a list of its known slots ('Has'), an operation by one equation on its run, a region that draws its order by one canonical order that a Bool checks ('canonB'). No dump is imported here. -/
namespace Go.Rx
open Go.RowKit

abbrev Env:=List (Nat × Value)

def look:Env→Nat→Option Value
  | [],_=>none
  | p::r,t=>bif Nat.beq p.1 t then some p.2 else look r t

theorem beq_no {i j:Nat} (h:¬i=j):Nat.beq i j=false:=by
  cases e:Nat.beq i j with
  | false=>rfl
  | true=>exact absurd (Nat.eq_of_beq_eq_true e) h

/-- What is known of a frame: its size, that nothing is deferred, and what some of its slots hold (the first entry of a slot counts). -/
structure Has (n:Nat) (env:Env) (a:Act):Prop where
  defers:a.defers=[]
  size:a.tmps.size=n
  has:∀ t v,look env t=some v→a.tmps[t]?=some v

def ev (env:Env):Operand→Option Value
  | .tmp t=>look env t
  | .const v=>some v
  | .global g=>some (.pointer (some ⟨g,0,none⟩))
  | .func f=>some (.func (.func f) #[] #[])

section
variable {n:Nat} {env:Env} {a:Act} {v:Value}

theorem Has.ev {x:Operand} (h:Has n env a) (hx:Rx.ev env x=some v):a.eval x=v:=by
  cases x with
  | tmp t=>simp only[Rx.ev] at hx;simp[Act.eval,Array.getD_eq_getD_getElem?,h.has t v hx]
  | const u=>simpa[Rx.ev,Act.eval] using hx
  | global g=>simpa[Rx.ev,Act.eval] using hx
  | func f=>simpa[Rx.ev,Act.eval] using hx

theorem Has.put {d:Nat} (h:Has n env a) (hd:Nat.blt d n=true) (v:Value):Has n ((d,v)::env) (a.put (some d) v):=by
  have hd':d<n:=by simpa[Nat.blt_eq] using hd
  refine⟨h.defers,by simp[Act.put,h.size],fun t u hu=>?_⟩;simp only[look] at hu;by_cases e:d=t
  · subst e
    have hb:Nat.beq d d=true:=Nat.beq_refl d;rw[hb] at hu;simp only[cond_true,Option.some.injEq] at hu;subst hu;simp[Act.put,h.size,hd']
  · have hb:Nat.beq d t=false:=beq_no e
    rw[hb] at hu;simp only[cond_false] at hu;simp only[Act.put];rw[Array.getElem?_setIfInBounds_ne e];exact h.has t u hu

def pick:List Nat→Env→Env
  | [],_=>[]
  | t::ts,env=>match look env t with
    | some v=>(t,v)::pick ts env
    | none=>pick ts env

theorem look_pick:∀ (ts:List Nat) (t:Nat) (u:Value),look (pick ts env) t=some u→look env t=some u
  | [],_,_,h=>by simp[pick,look] at h
  | s::ts,t,u,h=>by
    simp only[pick] at h
    split at h
    · rename_i v hv
      simp only[look] at h;by_cases e:s=t
      · subst e;rw[Nat.beq_refl] at h;simp at h;subst h;exact hv
      · have hb:Nat.beq s t=false:=beq_no e
        rw[hb] at h;exact look_pick ts t u h
    · exact look_pick ts t u h

theorem Has.pick (h:Has n env a) (ts:List Nat):Has n (Rx.pick ts env) a:=⟨h.defers,h.size,fun t u hu=>h.has t u (look_pick ts t u hu)⟩

/-- To a list typed out: each slot is looked up. -/
theorem Has.to {env':Env} (h:Has n env a) (ts:List Nat) (e:Rx.pick ts env=env'):Has n env' a:=e ▸ h.pick ts

def initEnv:List Value→Nat→Env
  | [],_=>[]
  | v::r,i=>(i,v)::initEnv r (i+1)

theorem look_init:∀ (l:List Value) (i t:Nat) (u:Value),look (initEnv l i) t=some u→i≤t∧l[t - i]?=some u
  | [],_,_,_,h=>by simp[initEnv,look] at h
  | v::r,i,t,u,h=>by
    simp only[initEnv,look] at h;by_cases e:i=t
    · subst e;rw[Nat.beq_refl] at h;simp at h;subst h;simp
    · have hb:Nat.beq i t=false:=beq_no e
      rw[hb] at h;obtain⟨h1,h2⟩:=look_init r (i+1) t u h;refine⟨by omega,?_⟩;rw[show t - i=(t - (i+1))+1 by omega,List.getElem?_cons_succ];exact h2

/-- The frame in which a call begins. -/
theorem Has.init (args:List Value) (m:Nat) (hm:args.length≤m):Has m (initEnv args 0) {tmps:=args.toArray++Array.replicate (m - args.toArray.size) undef,defers:=[]}:=by
  refine⟨rfl,by simp;omega,fun t u hu=>?_⟩;obtain⟨_,h⟩:=look_init args 0 t u hu;simp only[Nat.sub_zero] at h;have hl:t<args.length:=(List.getElem?_eq_some_iff.1 h).1;rw[Array.getElem?_append,if_pos (by simpa using hl)];simpa using h

theorem enter {P:Program} {f:FuncId} {fn:Func} {c:Code} {args:List Value} {w:World} {R:Ending→World→Prop} {m:Nat}
    (hf:P.funcs[f]?=some fn) (hb:fn.body=some c) (hn:fn.ntmps=m) (hm:Nat.ble args.length m=true)
    (h:∀ a,Has m (initEnv args 0) a→c.wp P (bodyPost P fn R) a w):Calls P f args.toArray w R:=by
  refine calls_of_wp hf hb (h _ ?_);subst hn;exact Has.init args _ (by simpa[Nat.ble_eq] using hm)
end

section
variable {P:Program} {ops:Array Oper} {Q:Exit→Act→World→Prop} {a:Act} {w w':World} {rest:List Oper} {o:Oper} {n:Nat} {env:Env} {v:Value}

theorem wanted_none (hg:o.guard=none) (y:Nat→Option Bool):Region.wanted o y=true:=by simp[Region.wanted,hg]

/-- One operation that yields a value. -/
theorem sv (ha:Has n env a) {d:Nat} (hrun:(execOp a.eval o).run P w=.ok (.value v) w') (hg:o.guard=none) (hd:o.dst=some d) (hn:Nat.blt d n=true)
    (k:∀ a',Has n ((d,v)::env) a'→wpList P ops Q rest a' w'):wpList P ops Q (o::rest) a w:=by
  unfold wpList;rw[if_pos (wanted_none hg _)];refine .inl ?_;unfold Oper.wp;rw[hrun,Oper.upon_value,hd];exact k _ (ha.put hn v)

/-- One that yields none (a store). -/
theorem ss (ha:Has n env a) (hrun:(execOp a.eval o).run P w=.ok .skip w') (hg:o.guard=none) (hd:o.dst=none)
    (k:∀ a',Has n env a'→wpList P ops Q rest a' w'):wpList P ops Q (o::rest) a w:=by
  unfold wpList;rw[if_pos (wanted_none hg _)];refine .inl ?_;unfold Oper.wp;rw[hrun,Oper.upon_skip,hd];exact k _ ha

/-- A call. -/
theorem sc (ha:Has n env a) {d:Nat} {f:FuncId} {args:Array Value} {R:Ending→World→Prop} (hrun:(execOp a.eval o).run P w=.ok (.enter f args) w') (hg:o.guard=none) (hd:o.dst=some d) (hn:Nat.blt d n=true)
    (hc:Calls P f args w' R) (k:∀ e w'',R e w''→∃ v,e=.returned v∧∀ a',Has n ((d,v)::env) a'→wpList P ops Q rest a' w''):wpList P ops Q (o::rest) a w:=by
  unfold wpList;rw[if_pos (wanted_none hg _)];refine .inl ?_;unfold Oper.wp;rw[hrun,Oper.upon_enter,hd];refine hc.mono fun e w'' hR=>?_;obtain⟨v,rfl,k'⟩:=k e w'' hR;exact k' _ (ha.put hn v)

/-- What the guard of an operation looks at: the slot of another one holds a Bool. -/
theorem yielded_of (ha:Has n env a) {j s:Nat} {b:Bool} (hj:(ops[j]?).bind (·.dst)=some s) (hs:look env s=some (.bool b)):yielded ops a.tmps j=some b:=by
  have h:=ha.has s _ hs;unfold yielded;simp only[hj];simp[h]

/-- An operation whose guard says no is passed over. -/
theorem sno (ha:Has n env a) {d j s:Nat} {b want:Bool} (hg:o.guard=some (j,want)) (hj:(ops[j]?).bind (·.dst)=some s) (hs:look env s=some (.bool b)) (hne:b= !want) (hd:o.dst=some d) (hn:Nat.blt d n=true)
    (k:∀ a',Has n ((d,undef)::env) a'→wpList P ops Q rest a' w):wpList P ops Q (o::rest) a w:=by
  have hy:=yielded_of (ops:=ops) ha hj hs;unfold wpList;rw[if_neg (by simp[Region.wanted,hg,hy,hne]),hd];exact k _ (ha.put hn undef)

theorem guard_yes (ha:Has n env a) {j s:Nat} {want:Bool} (hg:o.guard=some (j,want)) (hj:(ops[j]?).bind (·.dst)=some s) (hs:look env s=some (.bool want)):Region.wanted o (yielded ops a.tmps)=true:=by
  have hy:=yielded_of (ops:=ops) ha hj hs;simp[Region.wanted,hg,hy]

theorem svg (ha:Has n env a) {d j s:Nat} {want:Bool} (hrun:(execOp a.eval o).run P w=.ok (.value v) w') (hg:o.guard=some (j,want)) (hj:(ops[j]?).bind (·.dst)=some s) (hs:look env s=some (.bool want)) (hd:o.dst=some d) (hn:Nat.blt d n=true)
    (k:∀ a',Has n ((d,v)::env) a'→wpList P ops Q rest a' w'):wpList P ops Q (o::rest) a w:=by
  unfold wpList;rw[if_pos (guard_yes ha hg hj hs)];refine .inl ?_;unfold Oper.wp;rw[hrun,Oper.upon_value,hd];exact k _ (ha.put hn v)

theorem region {id:Nat} {l:List Oper} (h:wpList P l.toArray Q l a w):(Code.region id l.toArray false).wp P Q a w:=wp_region_lit h

end

/-! ### Code -/
section
variable {P:Program} {Q:Exit→Act→World→Prop} {a:Act} {w:World} {n:Nat} {env:Env}

theorem cond_t {c:Operand} {x y:Code} (ha:Has n env a) (hc:ev env c=some (.bool true)) (h:x.wp P Q a w):(Code.cond c x y).wp P Q a w:=wp_cond_true (ha.ev hc) h
theorem cond_f {c:Operand} {x y:Code} (ha:Has n env a) (hc:ev env c=some (.bool false)) (h:y.wp P Q a w):(Code.cond c x y).wp P Q a w:=wp_cond_false (ha.ev hc) h
theorem cond_if {c:Operand} {x y:Code} {b:Bool} (ha:Has n env a) (hc:ev env c=some (.bool b)) (ht:b=true→x.wp P Q a w) (hf:b=false→y.wp P Q a w):(Code.cond c x y).wp P Q a w:=
  wp_cond_split (ha.ev hc) ht hf

theorem t_ret {next:Act→World→Prop} (h:Q .ret a w):Exit.then next Q .ret a w:=h

/-- A loop, its measure on a ghost. -/
theorem loopG {c:Code} {G:Type} (I:G→Act→World→Prop) (μ:G→Nat) (g0:G) (h₀:I g0 a w)
    (round:∀ g a w,I g a w→c.wp P (Exit.then (fun a' w'=>∃ g',μ g'<μ g∧I g' a' w') Q) a w):(Code.loop c).wp P Q a w:=by
  intro b k cs;have key:∀ m g a w,μ g=m→I g a w→
      ∃ e a' w',Q e a' w'∧Arrives P (lone (b.at a (.code c:: .inLoop c::k)) cs w) b k cs e a' w':=by
    intro m
    induction m using Nat.strongRecOn with
    | _ m ih=>
      intro g a w hm hI;obtain⟨e,a₁,w₁,hq,harr⟩:=round g a w hI b (.inLoop c::k) cs
      cases e with
      | normal=>
        obtain⟨g',hlt,hI₁⟩:=hq;obtain⟨e₂,a₂,w₂,hq₂,harr₂⟩:=ih (μ g') (hm ▸ hlt) g' a₁ w₁ rfl hI₁;exact⟨e₂,a₂,w₂,hq₂,.of_steps (Steps.trans harr (.one step_inLoop)) harr₂⟩
      | exit id=>exact⟨_,a₁,w₁,hq,.pass (x:=.inLoop c) rfl (fun _ _=>.inl (by simp)) harr⟩
      | goto l=>exact⟨_,a₁,w₁,hq,.pass (x:=.inLoop c) rfl (fun _ _=>.inl (by simp)) harr⟩
      | ret=>exact⟨_,a₁,w₁,hq,.pass (x:=.inLoop c) rfl (fun _ _=>.inl (by simp)) harr⟩
      | panic ch=>exact⟨_,a₁,w₁,hq,.pass (x:=.inLoop c) rfl (fun _ _=>.inl (by simp)) harr⟩
      | outgrown=>exact⟨_,a₁,w₁,hq,.pass (x:=.inLoop c) rfl (fun _ _=>.inl (by simp)) harr⟩
  obtain⟨e,a',w',hq,harr⟩:=key _ g0 a w rfl h₀;exact⟨e,a',w',hq,.of_steps (.one step_loop) harr⟩

/-- The end of a function with one result in a slot. -/
theorem ret1 {fn:Func} {R:Ending→World→Prop} {t:Tmp} {v:Value} (ha:Has n env a) (hr:fn.results= #[.tmp t]) (hv:look env t=some v) (h:R (.returned v) w):bodyPost P fn R .ret a w:=by
  refine⟨ha.defers,v,?_,h⟩;rw[results_tmp hr];simp[Array.getD_eq_getD_getElem?,ha.has t v hv]

theorem ret2 {fn:Func} {R:Ending→World→Prop} {t u:Tmp} {v x:Value} (ha:Has n env a) (hr:fn.results= #[.tmp t,.tmp u]) (hv:look env t=some v) (hx:look env u=some x) (h:R (.returned (.tuple #[v,x])) w):bodyPost P fn R .ret a w:=by
  refine⟨ha.defers,.tuple #[v,x],?_,h⟩;rw[results_tmp2 hr];simp[Array.getD_eq_getD_getElem?,ha.has t v hv,ha.has u x hx]

theorem run_results3 {fn:Func} {t u s:Tmp} (h:fn.results= #[.tmp t,.tmp u,.tmp s]) (tmps:Array Value) (P:Program) (w:World):
    (results fn tmps).run P w=.ok (.tuple #[tmps.getD t undef,tmps.getD u undef,tmps.getD s undef]) w:=by
  simp[results,h]

theorem ret3 {fn:Func} {R:Ending→World→Prop} {t u s:Tmp} {v x y:Value} (ha:Has n env a) (hr:fn.results= #[.tmp t,.tmp u,.tmp s]) (hv:look env t=some v) (hx:look env u=some x) (hy:look env s=some y) (h:R (.returned (.tuple #[v,x,y])) w):bodyPost P fn R .ret a w:=by
  refine⟨ha.defers,.tuple #[v,x,y],?_,h⟩;rw[run_results3 hr];simp[Array.getD_eq_getD_getElem?,ha.has t v hv,ha.has u x hx,ha.has s y hy]

/-- One result that lies in a block (an array, a struct). -/
theorem retC {fn:Func} {R:Ending→World→Prop} {p:Tmp} {ty g t:Nat} {C:List Value} (d:TypeDesc) (ha:Has n env a) (hr:fn.results= #[.cell p ty]) (hp:look env p=some (.pointer (some ⟨g,0,none⟩)))
    (hg:w.heap[g]?=some (.cells C.toArray t (0,0))) (hu:P.underlying ty=some d) (hd:(match d with | .struct _ | .array _ _=>true | _=>false)=true) (hi:(P.info? ty).map (·.size)=some C.length)
    (h:R (.returned (.agg C.toArray)) w):bodyPost P fn R .ret a w:=by
  refine⟨ha.defers,.agg C.toArray,?_,h⟩;exact results_cell_row hr a.tmps w g t C.toArray (0,0) d (by simp[Array.getD_eq_getD_getElem?,ha.has p _ hp]) hg hu hd (by simpa using hi)
end
end Go.Rx

/- A region that draws its order: one canonical order serves, if a Bool holds ('canonB') and each operation that is called steady yields one value in every world that meets S. Behind number n, which waits for all others, S is not asked. -/
namespace Go.Rx
open Go.RowKit

section
variable {P:Program} {ops:Array Oper} {Q:Exit→Act→World→Prop} {S:World→Prop} {T:List Nat}

/-- What is listed has all that it waits for listed, too. -/
def Closed (ops:Array Oper) (listed:Array Bool):Prop:=∀ j oj,ops[j]?=some oj→listed.getD j false=true→∀ e ∈ oj.after,Region.binds .any e=true→listed.getD e.on false=true
theorem Closed.add {listed:Array Bool} {j:Nat} (h:Closed ops listed) (hj:j ∈ Region.ready .any ops listed):Closed ops (listed.setIfInBounds j true):=by
  intro k ok hk hl e he hb;by_cases hjk:j=k
  · subst hjk
    obtain⟨_,o,ho,hall⟩:=mem_ready.1 hj;rw[ho] at hk
    cases hk
    exact getD_set_true (hall e he hb)
  · rw[getD_set_ne false hjk] at hl
    exact getD_set_true (h k ok hk hl e he hb)

/-- Number t waits for number i, directly or through others. -/
def waitsB (ops:Array Oper):Nat→Nat→Nat→Bool
  | 0,_,_=>false
  | f+1,t,i=>match ops[t]? with
    | none=>false
    | some o=>o.after.any fun e=>Region.binds .any e && (Nat.beq e.on i || waitsB ops f e.on i)
theorem waitsB_listed {listed:Array Bool} (hc:Closed ops listed) {i:Nat}:∀ (f t:Nat),waitsB ops f t i=true→(∀ o,ops[t]?=some o→∀ e ∈ o.after,Region.binds .any e=true→listed.getD e.on false=true)→listed.getD i false=true
  | 0,t,h,_=>by simp[waitsB] at h
  | f+1,t,h,hr=>by
    unfold waitsB at h
    cases ho:ops[t]? with
    | none=>rw[ho] at h;cases h
    | some o=>
      rw[ho] at h;obtain⟨e,he,hb⟩:=Array.any_eq_true'.1 h;simp only[Bool.and_eq_true,Bool.or_eq_true] at hb;have hl:=hr o ho e he hb.1;rcases hb.2 with h1 | h1
      · rwa [Nat.eq_of_beq_eq_true h1] at hl
      · exact waitsB_listed hc f e.on h1 (fun o' ho' e' he' hb'=>hc e.on o' ho' hl e' he' hb')

/-- Each number of the tail waits for all that are not of it. -/
def tailB (ops:Array Oper) (T:List Nat):Bool:=T.all fun t=>(List.range ops.size).all fun i=>T.contains i || waitsB ops ops.size t i
theorem tailB_spec {i t:Nat} {oi:Oper} (hi:ops[i]?=some oi) (h:tailB ops T=true) (listed:Array Bool) (hc:Closed ops listed) (ht:T.contains t=true) (hr:t ∈ Region.ready .any ops listed) (hl:listed.getD i true=false):T.contains i=true:=by
  have hlt:i<ops.size:=(Array.getElem?_eq_some_iff.1 hi).1;have h1:=List.all_eq_true.1 h t (by simpa using ht);have h2:=List.all_eq_true.1 h1 i (by simpa using hlt);simp only[Bool.or_eq_true] at h2;rcases h2 with h2 | h2
  · exact h2
  · obtain⟨_,o,ho,hall⟩:=mem_ready.1 hr
    have h3:=waitsB_listed hc _ _ h2 (fun o' ho' e he hb=>by rw[ho] at ho';cases ho';exact hall e he hb);rcases Nat.lt_or_ge i listed.size with h' | h'
    · simp[h'] at hl h3;rw[hl] at h3;cases h3
    · simp[Array.getElem?_eq_none h'] at h3

/-- Whatever order is picked: with f operations to come. S holds behind each operation that is not of the tail. -/
def AnyF (P:Program) (ops:Array Oper) (Q:Exit→Act→World→Prop) (S:World→Prop) (T:List Nat):Nat→Array Bool→Act→World→Prop
  | 0,listed,a,w=>Region.ready .any ops listed=[]∧Q .normal a w
  | f+1,listed,a,w=>Region.ready .any ops listed≠[]∧
    ∀ i ∈ Region.ready .any ops listed,wpOp P ops Q i (fun a' w'=>(T.contains i=false→S w')∧AnyF P ops Q S T f (listed.setIfInBounds i true) a' w') a w

theorem any_of_AnyF:∀ (f:Nat) (listed:Array Bool) (a:Act) (w:World),AnyF P ops Q S T f listed a w→wpAny P .any ops Q f listed a w
  | 0,_,_,_,h=>h
  | f+1,_,_,_,h=>⟨fun e=>absurd e h.1,fun i hi=>wpOp_mono (fun a' w' h'=>any_of_AnyF f _ a' w' h'.2) (h.2 i hi)⟩

theorem AnyF_first {i:Nat} {oi:Oper} {v:Value} (hi:ops[i]?=some oi) (hit:T.contains i=false) (hsel:∀ (j:Nat) (o:Oper) cs b,ops[j]?=some o→o.op≠ .select cs b)
    (hQ:∀ c a w,Q (.panic c) (a.put oi.dst v) w→Q (.panic c) a w) (hlast:tailB ops T=true):
    ∀ (f:Nat) (listed:Array Bool) (a:Act) (w:World),Closed ops listed→
      (∀ j oj,ops[j]?=some oj→j≠i→listed.getD j true=false→(∀ e ∈ oj.after,Region.binds .any e=true→e.on≠i)→oi.apart ops oj=true)→
      i ∈ Region.ready .any ops listed→YieldsIf P ops S oi v a→S w→
      AnyF P ops Q S T f (listed.setIfInBounds i true) (a.put oi.dst v) w→AnyF P ops Q S T (f+1) listed a w:=by
  intro f
  induction f with
  | zero=>
    intro listed a w _ _ hr hy hS H;refine⟨fun e=>(by rw[e] at hr;cases hr),fun j hj=>?_⟩;by_cases hji:j=i
    · subst hji;exact hy.wpOp hi hS ⟨fun _=>hS,H⟩
    · have hm:=ready_mono hj hji
      rw[H.1] at hm
      cases hm
  | succ f ih=>
    intro listed a w hcl hfree hr hy hS H;refine⟨fun e=>(by rw[e] at hr;cases hr),fun j hj=>?_⟩;by_cases hji:j=i
    · subst hji;exact hy.wpOp hi hS ⟨fun _=>hS,H⟩
    · have h1:=H.2 j (ready_mono hj hji)
      obtain⟨hjun,oj,hoj,hall⟩:=mem_ready.1 hj;have hnot:∀ e ∈ oj.after,Region.binds .any e=true→e.on≠i:=by
        intro e he hb heq;have hl:=hall e he hb;have h0:=(mem_ready.1 hr).1;rw[heq] at hl;rcases Nat.lt_or_ge i listed.size with h' | h'
        · simp[h'] at h0 hl;rw[h0] at hl;cases hl
        · simp[Array.getElem?_eq_none h'] at hl
      have h2:=wpOp_putIf hoj (hfree j oj hoj hji hjun hnot) (fun cs b=>hsel i oi cs b hi) (fun cs b=>hsel j oj cs b hoj) hQ hy h1;have hfree':∀ k ok,ops[k]?=some ok→k≠i→(listed.setIfInBounds j true).getD k true=false→
          (∀ e ∈ ok.after,Region.binds .any e=true→e.on≠i)→oi.apart ops ok=true:=by
        intro k ok hk hki hun hno;refine hfree k ok hk hki ?_ hno;by_cases hjk:j=k
        · subst hjk;exact hjun
        · rw[getD_set_ne true hjk] at hun;exact hun
      have hjn:T.contains j=false:=by
        cases hT:T.contains j with
        | false=>rfl
        | true=>rw[tailB_spec hi hlast listed hcl hT hj (mem_ready.1 hr).1] at hit;cases hit
      refine wpOp_mono (fun a' w' h3=>?_) h2;obtain⟨hy',hS',hA'⟩:=h3;refine⟨hS',ih (listed.setIfInBounds j true) a' w' (hcl.add hj) hfree' (ready_mono hr (Ne.symm hji)) hy' (hS' hjn) ?_⟩;rw[Array.setIfInBounds_comm _ _ hji];exact hA'

/-- The canonical order: 'st' are the steady ones. -/
def orderB (ops:Array Oper) (st:List Nat):List Nat→Array Bool→Bool
  | [],listed=>(Region.ready .any ops listed).isEmpty
  | i::r,listed=>(Region.ready .any ops listed).contains i && (if st.contains i then Region.free .any ops listed i else(Region.ready .any ops listed).all (Nat.beq i)) && orderB ops st r (listed.setIfInBounds i true)
/-- Behind the first number of the tail none is steady. -/
def restB (st T:List Nat):List Nat→Bool
  | []=>true
  | i::r=>(if T.contains i then(i::r).all (fun k=> !st.contains k) else true) && restB st T r

def canonB (ops:Array Oper) (st T:List Nat) (ord:List Nat):Bool:=
  Region.noSelect ops && tailB ops T && Nat.beq ord.length ops.size && orderB ops st ord (Array.replicate ops.size false) && restB st T ord

/-- The walk of the canonical order. Behind an operation that is not steady, when it is the only one that may come, S may be strengthened. -/
def wpC (P:Program) (ops:Array Oper) (Q:Exit→Act→World→Prop) (S:World→Prop) (T:List Nat) (st:List Nat):List Nat→Act→World→Prop
  | [],a,w=>Q .normal a w
  | i::r,a,w=>∃ o,ops[i]?=some o∧
    if st.contains i then ∃ v,YieldsIf P ops S o v a∧wpC P ops Q S T st r (a.put o.dst v) w
    else wpOp P ops Q i (fun a' w'=>∃ S':World→Prop,(∀ w,S' w→S w)∧(T.contains i=false→S' w')∧wpC P ops Q S' T st r a' w') a w

theorem AnyF_mono {S':World→Prop} (hle:∀ w,S' w→S w):∀ (f:Nat) (listed:Array Bool) (a:Act) (w:World),AnyF P ops Q S' T f listed a w→AnyF P ops Q S T f listed a w
  | 0,_,_,_,h=>h
  | f+1,_,_,_,h=>⟨h.1,fun i hi=>wpOp_mono (fun a' w' h'=>⟨fun hT=>hle _ (h'.1 hT),AnyF_mono hle f _ a' w' h'.2⟩) (h.2 i hi)⟩

theorem AnyF_of_wpC {st:List Nat} (hsel:Region.noSelect ops=true) (hlast:tailB ops T=true) (hQ:∀ c a w,¬Q (.panic c) a w):
    ∀ (ord:List Nat) (S:World→Prop) (listed:Array Bool) (a:Act) (w:World),Closed ops listed→orderB ops st ord listed=true→restB st T ord=true→((∃ k ∈ ord,st.contains k=true)→S w)→
      wpC P ops Q S T st ord a w→AnyF P ops Q S T ord.length listed a w
  | [],_,_,_,_,_,hB,_,_,h=>⟨by simpa[orderB] using hB,h⟩
  | i::r,S,listed,a,w,hcl,hB,hR,hS,h=>by
    simp only[orderB,Bool.and_eq_true] at hB;obtain⟨⟨hr,hf⟩,hB'⟩:=hB;simp only[restB,Bool.and_eq_true] at hR;obtain⟨hR0,hR'⟩:=hR;obtain⟨o,ho,h⟩:=h;have hir:i ∈ Region.ready .any ops listed:=by simpa using hr
    by_cases hc:st.contains i=true
    · rw[if_pos hc] at h hf
      obtain⟨v,hy,h⟩:=h;have hw:=hS ⟨i,by simp,hc⟩;have hit:T.contains i=false:=by
        cases hT:T.contains i with
        | false=>rfl
        | true=>rw[if_pos hT] at hR0;have:=List.all_eq_true.1 hR0 i (by simp);rw[hc] at this;cases this
      exact AnyF_first ho hit (Region.noSelect_spec hsel) (fun c a w hq=>absurd hq (hQ c _ w)) hlast r.length listed a w hcl (Region.free_spec ho hf) hir hy hw
        (AnyF_of_wpC hsel hlast hQ r S _ _ w (hcl.add hir) hB' hR' (fun _=>hw) h)
    · rw[if_neg hc] at h hf
      have hall:∀ k ∈ Region.ready .any ops listed,k=i:=fun k hk=>(Nat.eq_of_beq_eq_true (List.all_eq_true.1 hf k hk)).symm;refine⟨fun e=>by rw[e] at hr;simp at hr,fun k hk=>?_⟩;rw[hall k hk];refine wpOp_mono (fun a' w' h'=>?_) h;obtain⟨S',hle,hS',h'⟩:=h';refine⟨fun hT=>hle _ (hS' hT),AnyF_mono hle _ _ _ _ (AnyF_of_wpC hsel hlast hQ r S' _ a' w' (hcl.add hir) hB' hR' (fun hex=>?_) h')⟩
      cases hT:T.contains i with
      | false=>exact hS' hT
      | true=>
        exfalso
        rw[if_pos hT] at hR0;obtain⟨k',hk',hst'⟩:=hex;have:=List.all_eq_true.1 hR0 k' (List.mem_cons_of_mem _ hk');rw[hst'] at this;cases this

/-- A region that draws its order. -/
theorem regionC {id:Nat} {a:Act} {w:World} {l:List Oper} (S:World→Prop) (T st ord:List Nat) (hm:P.follows .mixedOrders=true)
    (hB:canonB l.toArray st T ord=true) (hS:S {w with drawn:=w.drawn+1})
    (h:wpC P l.toArray (NoPanic Q) S T st ord a {w with drawn:=w.drawn+1}):(Code.region id l.toArray true).wp P Q a w:=by
  simp only[canonB,Bool.and_eq_true] at hB;obtain⟨⟨⟨⟨h1,h2⟩,h3⟩,h4⟩,h5⟩:=hB;refine wp_region_noPanic (wp_region_any hm ?_);have hlen:ord.length=l.toArray.size:=Nat.eq_of_beq_eq_true h3;rw[← hlen];refine any_of_AnyF _ _ _ _ (AnyF_of_wpC h1 h2 (fun c a w hq=>hq) ord S _ a _ (fun j oj _ hl=>?_) (by rw[hlen];exact h4) h5 (fun _=>hS) h)
  exfalso
  rcases Nat.lt_or_ge j (Array.replicate ord.length false).size with h' | h'
  · simp[Array.getElem?_replicate] at hl
    split at hl <;> simp at hl
  · simp[Array.getElem?_eq_none h'] at hl

/-- The same, the world behind the draw behind a name. -/
theorem regionD {id:Nat} {a:Act} {w:World} {l:List Oper} (S:World→Prop) (T st ord:List Nat) (hm:P.follows .mixedOrders=true)
    (hB:canonB l.toArray st T ord=true) (hS:∀ w',w.grownBy w' none→S w')
    (h:∀ w',w.grownBy w' none→wpC P l.toArray (NoPanic Q) S T st ord a w'):(Code.region id l.toArray true).wp P Q a w:=
  have hg:w.grownBy {w with drawn:=w.drawn+1} none:=⟨rfl,rfl,rfl,Nat.le_refl _,fun _ _ _=>rfl⟩
  regionC S T st ord hm hB (hS _ hg) (h _ hg)

/-! ### The moves -/
variable {st:List Nat} {i:Nat} {r:List Nat} {a:Act} {w w':World} {o:Oper} {m:Nat} {env:Env} {v:Value}

theorem cfin (h:Q .normal a w):wpC P ops (NoPanic Q) S T st [] a w:=h

/-- A steady one. -/
theorem cv (ha:Has m env a) {d:Nat} (hi:ops[i]?=some o) (hc:st.contains i=true) (hrun:∀ w,S w→(execOp a.eval o).run P w=.ok (.value v) w) (hg:o.guard=none) (hd:o.dst=some d) (hn:Nat.blt d m=true)
    (k:∀ a',Has m ((d,v)::env) a'→wpC P ops Q S T st r a' w):wpC P ops Q S T st (i::r) a w:=by
  refine⟨o,hi,?_⟩;rw[if_pos hc];refine⟨v,.inl ⟨wanted_none hg _,hrun⟩,?_⟩;rw[hd];exact k _ (ha.put hn v)

/-- A store. -/
theorem cs (ha:Has m env a) (hi:ops[i]?=some o) (hc:st.contains i=false) (hrun:(execOp a.eval o).run P w=.ok .skip w') (hg:o.guard=none) (hd:o.dst=none) (hS:T.contains i=false→S w')
    (k:∀ a',Has m env a'→wpC P ops Q S T st r a' w'):wpC P ops Q S T st (i::r) a w:=by
  refine⟨o,hi,?_⟩;rw[if_neg (by rw[hc];simp)];unfold wpOp;simp only[hi];rw[if_pos (wanted_none hg _)];refine .inl ?_;unfold Oper.wp;rw[hrun,Oper.upon_skip,hd];exact⟨S,fun _ h=>h,hS,k _ ha⟩

/-- A call. -/
theorem cc (ha:Has m env a) {d:Nat} {f:FuncId} {args:Array Value} {R:Ending→World→Prop} (hi:ops[i]?=some o) (hc:st.contains i=false) (hrun:(execOp a.eval o).run P w=.ok (.enter f args) w') (hg:o.guard=none) (hd:o.dst=some d) (hn:Nat.blt d m=true)
    (hcall:Calls P f args w' R) (k:∀ e w'',R e w''→(T.contains i=false→S w'')∧∃ v,e=.returned v∧∀ a',Has m ((d,v)::env) a'→wpC P ops Q S T st r a' w''):wpC P ops Q S T st (i::r) a w:=by
  refine⟨o,hi,?_⟩;rw[if_neg (by rw[hc];simp)];unfold wpOp;simp only[hi];rw[if_pos (wanted_none hg _)];refine .inl ?_;unfold Oper.wp;rw[hrun,Oper.upon_enter,hd];refine hcall.mono fun e w'' hR=>?_;obtain⟨hS,v,rfl,k'⟩:=k e w'' hR;exact⟨S,fun _ h=>h,hS,k' _ (ha.put hn v)⟩

/-- A call whose result's fact is taken into S. -/
theorem ccx (ha:Has m env a) {d:Nat} {f:FuncId} {args:Array Value} {R:Ending→World→Prop} (hi:ops[i]?=some o) (hc:st.contains i=false) (hrun:(execOp a.eval o).run P w=.ok (.enter f args) w') (hg:o.guard=none) (hd:o.dst=some d) (hn:Nat.blt d m=true)
    (hcall:Calls P f args w' R) (k:∀ e w'',R e w''→∃ S':World→Prop,(∀ w,S' w→S w)∧(T.contains i=false→S' w'')∧∃ v,e=.returned v∧∀ a',Has m ((d,v)::env) a'→wpC P ops Q S' T st r a' w''):wpC P ops Q S T st (i::r) a w:=by
  refine⟨o,hi,?_⟩;rw[if_neg (by rw[hc];simp)];unfold wpOp;simp only[hi];rw[if_pos (wanted_none hg _)];refine .inl ?_;unfold Oper.wp;rw[hrun,Oper.upon_enter,hd];refine hcall.mono fun e w'' hR=>?_;obtain⟨S',hle,hS,v,rfl,k'⟩:=k e w'' hR;exact⟨S',hle,hS,k' _ (ha.put hn v)⟩
end
end Go.Rx

/- The operations of the calculus, one equation each: numbers, arrays, loads and stores, calls. -/
namespace Go.Rx
open Go.RowKit

abbrev e64 (x:UInt64):Value:=.int .u64 (x.toNat:Int)
abbrev e8 (x:UInt8):Value:=.int .u8 (x.toNat:Int)
abbrev ei (x:Int):Value:=.int .i64 x
abbrev en (x:Nat):Value:=.int .i64 (x:Int)

section
variable {P:Program} {n:Nat} {env:Env} {a:Act} {w:World} {dst:Option Tmp} {ty:TypeId} {pos:String} {af:Array Edge} {g:Option (Nat × Bool)} {x y z:Operand} {v u:Value}

theorem r_move (ha:Has n env a) (hx:ev env x=some v):(execOp a.eval ⟨dst,.move x,ty,pos,af,g⟩).run P w=.ok (.value v) w:=by
  simp[execOp,ha.ev hx]
theorem r_assign (ha:Has n env a) (hx:ev env x=some v):(execOp a.eval ⟨dst,.assign x,ty,pos,af,g⟩).run P w=.ok (.value v) w:=by
  simp[execOp,ha.ev hx]
theorem r_pick (ha:Has n env a) (b:Bool) {c p q:Operand} (hc:ev env c=some (.bool b)) (hv:(bif b then ev env p else ev env q)=some v):(execOp a.eval ⟨dst,.pick c p q,ty,pos,af,g⟩).run P w=.ok (.value v) w:=by
  cases b <;> simp at hv <;> simp[execOp,ha.ev hc,asBool,ha.ev hv]

/-! ### Memory -/
theorem r_box (ha:Has n env a) {t:TypeId} (hx:ev env x=some v):(execOp a.eval ⟨dst,.box t x,ty,pos,af,g⟩).run P w=.ok (.value (.pointer (some ⟨w.heap.size,0,none⟩))) (w.alloc (.cells v.cells t)):=by
  simp[execOp,ha.ev hx,Instr.box,newVar,newRow,newObj]
  rfl
theorem r_alloc {t:TypeId} (hz:∀ w,(zeroValue t).run P w=.ok v w):(execOp a.eval ⟨dst,.alloc t,ty,pos,af,g⟩).run P w=.ok (.value (.pointer (some ⟨w.heap.size,0,none⟩))) (w.alloc (.cells v.cells t)):=by
  simp[execOp,Instr.alloc,hz,newVar,newRow,newObj]
  rfl

theorem r_load (ha:Has n env a) {t:TypeId} {b o:Nat} (hx:ev env x=some (.pointer (some ⟨b,o,none⟩))) (hagg:∀ w,(isAgg t).run P w=.ok false w) (hc:w.cell? ⟨b,o,none⟩=some v):
    (execOp a.eval ⟨dst,.load t x,ty,pos,af,g⟩).run P w=.ok (.value v) w:=by
  simp[execOp,ha.ev hx,Instr.loadAt,Instr.sureAddr,loadVar,hagg,load,Sem.run,hc]

theorem cell_of {b o t:Nat} {C:List Value} {fr:Nat × Nat} (hb:w.heap[b]?=some (.cells C.toArray t fr)) (hc:C[o]?=some v):w.cell? ⟨b,o,none⟩=some v:=by
  rw[cell_of_row w b o _ t fr hb];simpa using hc

theorem add_zero' (b o k:Nat):(⟨b,o,none⟩:Addr).add k=⟨b,o+k,none⟩:=by
  unfold Addr.add;split
  · subst k;rfl
  · rfl

theorem r_loadR (ha:Has n env a) {t:TypeId} {b o sz:Nat} (hx:ev env x=some (.pointer (some ⟨b,o,none⟩))) (hagg:∀ w,(isAgg t).run P w=.ok true w) (hsz:∀ w,(sizeOf t).run P w=.ok sz w) {C:List Value} (hl:C.length=sz)
    (hc:∀ j u,C[j]?=some u→w.cell? ⟨b,o+j,none⟩=some u):
    (execOp a.eval ⟨dst,.load t x,ty,pos,af,g⟩).run P w=.ok (.value (.agg C.toArray)) w:=by
  have h:=run_loadCells_list (P:=P) w ⟨b,o,none⟩ C (fun j u hu=>by rw[add_zero'];exact hc j u hu);rw[hl] at h;simp[execOp,ha.ev hx,Instr.loadAt,Instr.sureAddr,loadVar,hagg,hsz,h]

theorem cells_of {b t:Nat} {D C:List Value} {fr:Nat × Nat} (o:Nat) (hb:w.heap[b]?=some (.cells D.toArray t fr)) (hc:(D.drop o).take C.length=C):∀ j u,C[j]?=some u→w.cell? ⟨b,o+j,none⟩=some u:=by
  intro j u hu;rw[cell_of_row w b _ _ t fr hb];have hj:j<C.length:=(List.getElem?_eq_some_iff.1 hu).1;rw[← hc,List.getElem?_take,if_pos hj,List.getElem?_drop] at hu;simpa using hu

theorem cells_all {b t:Nat} {D:List Value} {fr:Nat × Nat} (hb:w.heap[b]?=some (.cells D.toArray t fr)):∀ j u,D[j]?=some u→w.cell? ⟨b,0+j,none⟩=some u:=by
  intro j u hu;rw[Nat.zero_add,cell_of_row w b _ _ t fr hb];simpa using hu

theorem r_store (ha:Has n env a) {t bt:TypeId} {b o:Nat} {C:List Value} (hx:ev env x=some (.pointer (some ⟨b,o,none⟩))) (hy:ev env y=some v) (hv:v.oneCell'=true) (hvs:v.cells= #[v]) (hsz:∀ w,(sizeOf t).run P w=.ok 1 w)
    (hb:w.heap[b]?=some (.cells C.toArray bt (0,0))) (ho:o<C.length):
    (execOp a.eval ⟨dst,.store t x y,ty,pos,af,g⟩).run P w=.ok .skip (w.setRow b (C.set o v).toArray):=by
  have hcell:w.cell? ⟨b,o,none⟩=some (C[o]):=by rw[cell_of_row w b o _ bt (0,0) hb];simp[ho]
  have hfro:w.frozen? ⟨b,o,none⟩=false:=by simp[World.frozen?,hb]
  have hst:(store ⟨b,o,none⟩ v).run P w=.ok () (w.setRow b (C.set o v).toArray):=by
    rw[run_store P w _ v _ hv,hcell];simp only[hfro,setCell_eq_setRow w b o C.toArray bt (0,0) v hb];simp
  have hz:(⟨b,o,none⟩:Addr).add 0=⟨b,o,none⟩:=rfl;simp[execOp,ha.ev hx,ha.ev hy,Instr.storeAt,Instr.sureAddr,storeVar,hsz,hvs,storeCells,hz,hst]

theorem r_storeR (ha:Has n env a) {t bt:TypeId} {b o sz:Nat} {C D:List Value} (hx:ev env x=some (.pointer (some ⟨b,o,none⟩))) (hy:ev env y=some (.agg D.toArray)) (hD:∀ u ∈ D,u.oneCell'=true) (hsz:∀ w,(sizeOf t).run P w=.ok sz w) (hl:D.length=sz)
    (hb:w.heap[b]?=some (.cells C.toArray bt (0,0))) (ho:o+D.length≤C.length):
    (execOp a.eval ⟨dst,.store t x y,ty,pos,af,g⟩).run P w=.ok .skip (w.setRow b (C.take o++D++C.drop (o+D.length)).toArray):=by
  have h:=run_storeCells_at P b o bt D 0 C.toArray w hb (by simpa using ho) hD;simp only[Nat.add_zero] at h;have hl':D.toArray.size=sz:=by simpa using hl
  simp[execOp,ha.ev hx,ha.ev hy,Instr.storeAt,Instr.sureAddr,storeVar,hsz,Value.cells,hl,h]

theorem r_indexArr (ha:Has n env a) {t e len sz:Nat} {b o i:Nat} (o':Nat) (hT:∀ w,(underlying t).run P w=.ok (.array len e) w) (hsz:∀ w,(sizeOf e).run P w=.ok sz w) (hx:ev env x=some (.pointer (some ⟨b,o,none⟩))) (hy:ev env y=some (en i)) (hi:i<len) (ho:o+i*sz=o'):
    (execOp a.eval ⟨dst,.indexAddr t x y,ty,pos,af,g⟩).run P w=.ok (.value (.pointer (some ⟨b,o',none⟩))) w:=by
  have h1:(0:Int)≤(i:Int)∧(i:Int)<(len:Int):=⟨by omega,by omega⟩;simp[execOp,ha.ev hx,ha.ev hy,Instr.indexAt,asIntOf,hT,hsz,Instr.sureAddr,h1,add_zero',ho,hi]

/-! ### Worlds: what changes is told by 'grownBy' (nothing that was there but one block); all else is carried on -/
section
variable {w0 w':World} {row:Option Nat} {b c:Nat} {o:Obj}

theorem grown_alloc (w:World) (o:Obj):w.grownBy (w.alloc o) none:=World.grownBy_alloc w o none
theorem grown_setRow (w:World) (b:Nat) (C:Array Value):w.grownBy (w.setRow b C) (some b):=
  ⟨rfl,rfl,rfl,by simp,fun k _ hk=>setRow_other w b k C (fun e=>hk (by rw[e]))⟩
theorem grown_call (h:Below w.heap.size w w'):w.grownBy w' none:=⟨h.os,h.tape,h.output,h.size,fun k hk _=>h.block k hk⟩
theorem keepB0 (hg:w.grownBy w' none) (h:Below w0.heap.size w0 w):Below w0.heap.size w0 w':=
  h.grown hg h.size (fun _ e=>by cases e)
theorem keepB1 (hg:w.grownBy w' (some b)) (hb:w0.heap.size≤b) (h:Below w0.heap.size w0 w):Below w0.heap.size w0 w':=
  h.grown hg h.size (fun k e=>by cases e;exact hb)
theorem keepO0 (hg:w.grownBy w' none) (h:w.heap[c]?=some o):w'.heap[c]?=some o:=by
  rw[hg.block c (Array.getElem?_eq_some_iff.1 h).1 (by simp)];exact h
theorem keepO1 (hg:w.grownBy w' (some b)) (hne:c≠b) (h:w.heap[c]?=some o):w'.heap[c]?=some o:=by
  rw[hg.block c (Array.getElem?_eq_some_iff.1 h).1 (by simpa using hne)];exact h
/- short names, put in by minify.py -/
theorem kB1 {c1:Nat} {o1:Obj} (hg:w.grownBy w' none) (h:Below w0.heap.size w0 w) (h1:w.heap[c1]?=some o1):Below w0.heap.size w0 w'∧w'.heap[c1]?=some o1:=
  ⟨keepB0 hg h,keepO0 hg h1⟩
theorem kB2 {c1 c2:Nat} {o1 o2:Obj} (hg:w.grownBy w' none) (h:Below w0.heap.size w0 w) (h1:w.heap[c1]?=some o1) (h2:w.heap[c2]?=some o2):Below w0.heap.size w0 w'∧w'.heap[c1]?=some o1∧w'.heap[c2]?=some o2:=
  ⟨keepB0 hg h,keepO0 hg h1,keepO0 hg h2⟩
theorem kB3 {c1 c2 c3:Nat} {o1 o2 o3:Obj} (hg:w.grownBy w' none) (h:Below w0.heap.size w0 w) (h1:w.heap[c1]?=some o1) (h2:w.heap[c2]?=some o2) (h3:w.heap[c3]?=some o3):Below w0.heap.size w0 w'∧w'.heap[c1]?=some o1∧w'.heap[c2]?=some o2∧w'.heap[c3]?=some o3:=
  ⟨keepB0 hg h,keepO0 hg h1,keepO0 hg h2,keepO0 hg h3⟩
theorem kB4 {c1 c2 c3 c4:Nat} {o1 o2 o3 o4:Obj} (hg:w.grownBy w' none) (h:Below w0.heap.size w0 w) (h1:w.heap[c1]?=some o1) (h2:w.heap[c2]?=some o2) (h3:w.heap[c3]?=some o3) (h4:w.heap[c4]?=some o4):Below w0.heap.size w0 w'∧w'.heap[c1]?=some o1∧w'.heap[c2]?=some o2∧w'.heap[c3]?=some o3∧w'.heap[c4]?=some o4:=
  ⟨keepB0 hg h,keepO0 hg h1,keepO0 hg h2,keepO0 hg h3,keepO0 hg h4⟩
theorem kB5 {c1 c2 c3 c4 c5:Nat} {o1 o2 o3 o4 o5:Obj} (hg:w.grownBy w' none) (h:Below w0.heap.size w0 w) (h1:w.heap[c1]?=some o1) (h2:w.heap[c2]?=some o2) (h3:w.heap[c3]?=some o3) (h4:w.heap[c4]?=some o4) (h5:w.heap[c5]?=some o5):Below w0.heap.size w0 w'∧w'.heap[c1]?=some o1∧w'.heap[c2]?=some o2∧w'.heap[c3]?=some o3∧w'.heap[c4]?=some o4∧w'.heap[c5]?=some o5:=
  ⟨keepB0 hg h,keepO0 hg h1,keepO0 hg h2,keepO0 hg h3,keepO0 hg h4,keepO0 hg h5⟩
theorem bz {b:Nat} (h:Below w0.heap.size w0 w) (g:w.heap.size≤b):w0.heap.size≤b:=Nat.le_trans h.size g
theorem dT {p:Prop} [Decidable p] (h:decide p=true):p:=of_decide_eq_true h
theorem dF {p:Prop} [i:Decidable p] (h: @decide p i=false):¬p:=of_decide_eq_false h
theorem dD {p q:Prop} [Decidable p] [Decidable q] (h:p↔q):decide p=decide q:=decide_eq_decide.2 h
theorem lM {α β:Type} {l:List α} (f:α→β):(l.map f).length=l.length:=List.length_map f
theorem lR {α:Type} {n:Nat} {a:α}:(List.replicate n a).length=n:=List.length_replicate
theorem lA {α:Type} {l r:List α}:(l++r).length=l.length+r.length:=List.length_append
/- end of the short names -/
theorem lt_of_block (h:w.heap[c]?=some o):c<w.heap.size:=(Array.getElem?_eq_some_iff.1 h).1

theorem setRow_new {C D:List Value} {t:TypeId} {fr:Nat × Nat} (h:w.heap[b]?=some (.cells C.toArray t fr)):(w.setRow b D.toArray).heap[b]?=some (.cells D.toArray t fr):=
  setRow_heap w b C.toArray D.toArray t fr h
end

/-! ### The moves with the worlds behind names -/
section
variable {ops:Array Oper} {Q:Exit→Act→World→Prop} {rest:List Oper} {d:Nat} {S:World→Prop} {T:List Nat} {i:Nat} {st r:List Nat}

theorem sbox (ha:Has n env a) {t:TypeId} {C:List Value} (hx:ev env x=some (.agg C.toArray)) (hn:Nat.blt d n=true)
    (k:∀ a' w' b,Has n ((d,.pointer (some ⟨b,0,none⟩))::env) a'→w.grownBy w' none→w'.heap[b]?=some (.cells C.toArray t (0,0))→w.heap.size≤b→b<w'.heap.size→wpList P ops Q rest a' w'):
    wpList P ops Q (⟨some d,.box t x,ty,pos,af,none⟩::rest) a w:=
  sv ha (r_box ha hx) rfl rfl hn fun _ ha'=>k _ _ _ ha' (grown_alloc w _) (heap_alloc_new w _) (Nat.le_refl _) (by simp)
theorem salloc (ha:Has n env a) {t:TypeId} {C:List Value} (hz:∀ w,(zeroValue t).run P w=.ok (.agg C.toArray) w) (hn:Nat.blt d n=true)
    (k:∀ a' w' b,Has n ((d,.pointer (some ⟨b,0,none⟩))::env) a'→w.grownBy w' none→w'.heap[b]?=some (.cells C.toArray t (0,0))→w.heap.size≤b→b<w'.heap.size→wpList P ops Q rest a' w'):
    wpList P ops Q (⟨some d,.alloc t,ty,pos,af,none⟩::rest) a w:=
  sv ha (r_alloc hz) rfl rfl hn fun _ ha'=>k _ _ _ ha' (grown_alloc w _) (heap_alloc_new w _) (Nat.le_refl _) (by simp)
/-- A store of one cell into a block of one's own. -/
theorem sstore (ha:Has n env a) {t bt:TypeId} {b o:Nat} {C:List Value} (hx:ev env x=some (.pointer (some ⟨b,o,none⟩))) (hy:ev env y=some v) (hv:v.oneCell'=true) (hvs:v.cells= #[v]) (hsz:∀ w,(sizeOf t).run P w=.ok 1 w)
    (hb:w.heap[b]?=some (.cells C.toArray bt (0,0))) (ho:o<C.length)
    (k:∀ a' w',Has n env a'→w.grownBy w' (some b)→w'.heap[b]?=some (.cells (C.set o v).toArray bt (0,0))→wpList P ops Q rest a' w'):wpList P ops Q (⟨none,.store t x y,ty,pos,af,none⟩::rest) a w:=
  ss ha (r_store ha hx hy hv hvs hsz hb ho) rfl rfl fun _ ha'=>k _ _ ha' (grown_setRow w b _) (setRow_new hb)
theorem sstoreR (ha:Has n env a) {t bt:TypeId} {b o sz:Nat} {C D:List Value} (hx:ev env x=some (.pointer (some ⟨b,o,none⟩))) (hy:ev env y=some (.agg D.toArray)) (hD:∀ u ∈ D,u.oneCell'=true) (hsz:∀ w,(sizeOf t).run P w=.ok sz w) (hl:D.length=sz)
    (hb:w.heap[b]?=some (.cells C.toArray bt (0,0))) (ho:o+D.length≤C.length)
    (k:∀ a' w',Has n env a'→w.grownBy w' (some b)→w'.heap[b]?=some (.cells (C.take o++D++C.drop (o+D.length)).toArray bt (0,0))→wpList P ops Q rest a' w'):wpList P ops Q (⟨none,.store t x y,ty,pos,af,none⟩::rest) a w:=
  ss ha (r_storeR ha hx hy hD hsz hl hb ho) rfl rfl fun _ ha'=>k _ _ ha' (grown_setRow w b _) (setRow_new hb)

/-- A store of a whole array. -/
theorem sstoreW (ha:Has n env a) {t bt:TypeId} {b sz:Nat} {C D:List Value} (hx:ev env x=some (.pointer (some ⟨b,0,none⟩))) (hy:ev env y=some (.agg D.toArray)) (hD:∀ u ∈ D,u.oneCell'=true) (hsz:∀ w,(sizeOf t).run P w=.ok sz w) (hl:D.length=sz)
    (hb:w.heap[b]?=some (.cells C.toArray bt (0,0))) (hC:C.length=sz)
    (k:∀ a' w',Has n env a'→w.grownBy w' (some b)→w'.heap[b]?=some (.cells D.toArray bt (0,0))→wpList P ops Q rest a' w'):wpList P ops Q (⟨none,.store t x y,ty,pos,af,none⟩::rest) a w:=
  sstoreR ha hx hy hD hsz hl hb (by omega) fun a' w' ha' hg hb'=>k a' w' ha' hg (by rwa [show C.take 0++D++C.drop (0+D.length)=D by simp[hl,hC]] at hb')

theorem cstore (ha:Has n env a) {t bt:TypeId} {b o:Nat} {C:List Value} (hi:ops[i]?=some ⟨none,.store t x y,ty,pos,af,none⟩) (hc:st.contains i=false) (hx:ev env x=some (.pointer (some ⟨b,o,none⟩))) (hy:ev env y=some v) (hv:v.oneCell'=true) (hvs:v.cells= #[v]) (hsz:∀ w,(sizeOf t).run P w=.ok 1 w)
    (hb:w.heap[b]?=some (.cells C.toArray bt (0,0))) (ho:o<C.length) (hlast:T.contains i=true)
    (k:∀ a' w',Has n env a'→w.grownBy w' (some b)→w'.heap[b]?=some (.cells (C.set o v).toArray bt (0,0))→wpC P ops Q S T st r a' w'):wpC P ops Q S T st (i::r) a w:=
  cs ha hi hc (r_store ha hx hy hv hvs hsz hb ho) rfl rfl (by rw[hlast];simp) fun _ ha'=>k _ _ ha' (grown_setRow w b _) (setRow_new hb)
theorem cstoreR (ha:Has n env a) {t bt:TypeId} {b o sz:Nat} {C D:List Value} (hi:ops[i]?=some ⟨none,.store t x y,ty,pos,af,none⟩) (hc:st.contains i=false) (hx:ev env x=some (.pointer (some ⟨b,o,none⟩))) (hy:ev env y=some (.agg D.toArray)) (hD:∀ u ∈ D,u.oneCell'=true) (hsz:∀ w,(sizeOf t).run P w=.ok sz w) (hl:D.length=sz)
    (hb:w.heap[b]?=some (.cells C.toArray bt (0,0))) (ho:o+D.length≤C.length) (hlast:T.contains i=true)
    (k:∀ a' w',Has n env a'→w.grownBy w' (some b)→w'.heap[b]?=some (.cells (C.take o++D++C.drop (o+D.length)).toArray bt (0,0))→wpC P ops Q S T st r a' w'):wpC P ops Q S T st (i::r) a w:=
  cs ha hi hc (r_storeR ha hx hy hD hsz hl hb ho) rfl rfl (by rw[hlast];simp) fun _ ha'=>k _ _ ha' (grown_setRow w b _) (setRow_new hb)
theorem cstoreW (ha:Has n env a) {t bt:TypeId} {b sz:Nat} {C D:List Value} (hi:ops[i]?=some ⟨none,.store t x y,ty,pos,af,none⟩) (hc:st.contains i=false) (hx:ev env x=some (.pointer (some ⟨b,0,none⟩))) (hy:ev env y=some (.agg D.toArray)) (hD:∀ u ∈ D,u.oneCell'=true) (hsz:∀ w,(sizeOf t).run P w=.ok sz w) (hl:D.length=sz)
    (hb:w.heap[b]?=some (.cells C.toArray bt (0,0))) (hC:C.length=sz) (hlast:T.contains i=true)
    (k:∀ a' w',Has n env a'→w.grownBy w' (some b)→w'.heap[b]?=some (.cells D.toArray bt (0,0))→wpC P ops Q S T st r a' w'):wpC P ops Q S T st (i::r) a w:=
  cstoreR ha hi hc hx hy hD hsz hl hb (by omega) hlast fun a' w' ha' hg hb'=>k a' w' ha' hg (by rwa [show C.take 0++D++C.drop (0+D.length)=D by simp[hl,hC]] at hb')
end

theorem get_map {α:Type} (f:α→Value) (l:List α) (d:α) (i:Nat) (h:i<l.length):(l.map f)[i]?=some (f (l.getD i d)):=by
  simp[List.getD,h]
theorem set_map {α:Type} (f:α→Value) (l:List α) (i:Nat) (x:α):(l.map f).set i (f x)=(l.set i x).map f:=by simp
theorem one_e64 (l:List UInt64):∀ u ∈ l.map e64,u.oneCell'=true:=by intro u hu;obtain⟨x,_,rfl⟩:=List.mem_map.1 hu;rfl
theorem one_e8 (l:List UInt8):∀ u ∈ l.map e8,u.oneCell'=true:=by intro u hu;obtain⟨x,_,rfl⟩:=List.mem_map.1 hu;rfl
/-! ### Calls -/
def evs (env:Env):List Operand→Option (List Value)
  | []=>some []
  | x::r=>match ev env x,evs env r with
    | some v,some l=>some (v::l)
    | _,_=>none

theorem Has.evs (ha:Has n env a):∀ (l:List Operand) (vs:List Value),Rx.evs env l=some vs→l.map a.eval=vs
  | [],vs,h=>by simp[Rx.evs] at h;subst h;rfl
  | x::r,vs,h=>by
    simp only[Rx.evs] at h
    split at h
    · rename_i v l hv hl
      simp only[Option.some.injEq] at h;subst h;rw[List.map_cons,ha.ev hv,Has.evs ha r l hl]
    · cases h

theorem r_call (ha:Has n env a) {f:FuncId} {l:List Operand} {tys:Array TypeId} (vs:List Value) (hl:evs env l=some vs) (hc:∀ args w,(callFunc f args).run P w=.ok (.enter f args) w):
    (execOp a.eval ⟨dst,.call ⟨.value (.func f),l.toArray,tys⟩,ty,pos,af,g⟩).run P w=.ok (.enter f vs.toArray) w:=by
  have h:=ha.evs l vs hl;have hf:a.eval (.func f)=.func (.func f) #[] #[]:=rfl;simp[execOp,resolve,hf,Deferred.ofValue,invoke,h,hc]

theorem r_extract (ha:Has n env a) {i:Nat} {vs:Array Value} (hx:ev env x=some (.tuple vs)) (hi:vs[i]?=some v):(execOp a.eval ⟨dst,.extract x i,ty,pos,af,g⟩).run P w=.ok (.value v) w:=by
  simp[execOp,ha.ev hx,Instr.extract,hi]

/-! ### Numbers: int -/
theorem i64_in {z:Int} (h1: -9223372036854775808≤z) (h2:z≤9223372036854775807):IntKind.i64.wrap z=z:=IntWalk.i64_in z ⟨h1,h2⟩

section
variable {t t':TypeId}

theorem r_add (ha:Has n env a) (p q:Int) (hx:ev env x=some (ei p)) (hy:ev env y=some (ei q)) (h: -9223372036854775808≤p+q∧p+q≤9223372036854775807):
    (execOp a.eval ⟨dst,.binOp .add t x y t',ty,pos,af,g⟩).run P w=.ok (.value (ei (p+q))) w:=by
  simp[execOp,ha.ev hx,ha.ev hy,eqGuard,binOp,Op.intArith,i64_in h.1 h.2]
theorem r_sub (ha:Has n env a) (p q:Int) (hx:ev env x=some (ei p)) (hy:ev env y=some (ei q)) (h: -9223372036854775808≤p - q∧p - q≤9223372036854775807):
    (execOp a.eval ⟨dst,.binOp .sub t x y t',ty,pos,af,g⟩).run P w=.ok (.value (ei (p - q))) w:=by
  simp[execOp,ha.ev hx,ha.ev hy,eqGuard,binOp,Op.intArith,i64_in h.1 h.2]
theorem r_mul (ha:Has n env a) (p q:Int) (hx:ev env x=some (ei p)) (hy:ev env y=some (ei q)) (h: -9223372036854775808≤p*q∧p*q≤9223372036854775807):
    (execOp a.eval ⟨dst,.binOp .mul t x y t',ty,pos,af,g⟩).run P w=.ok (.value (ei (p*q))) w:=by
  simp[execOp,ha.ev hx,ha.ev hy,eqGuard,binOp,Op.intArith,i64_in h.1 h.2]

/- numbers that are no less than nought -/
theorem rn_add (ha:Has n env a) (p q:Nat) (hx:ev env x=some (en p)) (hy:ev env y=some (en q)) (h:p+q≤9223372036854775807):
    (execOp a.eval ⟨dst,.binOp .add t x y t',ty,pos,af,g⟩).run P w=.ok (.value (en (p+q))) w:=by
  have:=r_add (P:=P) (w:=w) (t:=t) (t':=t') (ty:=ty) (pos:=pos) (af:=af) (g:=g) (dst:=dst) ha p q hx hy (by omega);rw[this];simp
theorem rn_sub (ha:Has n env a) (p q:Nat) (hx:ev env x=some (en p)) (hy:ev env y=some (en q)) (h:q≤p) (hp:p≤9223372036854775807):
    (execOp a.eval ⟨dst,.binOp .sub t x y t',ty,pos,af,g⟩).run P w=.ok (.value (en (p - q))) w:=by
  have:=r_sub (P:=P) (w:=w) (t:=t) (t':=t') (ty:=ty) (pos:=pos) (af:=af) (g:=g) (dst:=dst) ha p q hx hy (by omega);rw[this,show((p:Int) - (q:Int))=((p - q:Nat):Int) by omega]
theorem rn_mul (ha:Has n env a) (p q:Nat) (hx:ev env x=some (en p)) (hy:ev env y=some (en q)) (h:p*q≤9223372036854775807):
    (execOp a.eval ⟨dst,.binOp .mul t x y t',ty,pos,af,g⟩).run P w=.ok (.value (en (p*q))) w:=by
  have:=r_mul (P:=P) (w:=w) (t:=t) (t':=t') (ty:=ty) (pos:=pos) (af:=af) (g:=g) (dst:=dst) ha p q hx hy (by rw[← Int.natCast_mul];omega);rw[this];simp

theorem rn_rem (ha:Has n env a) (p q:Nat) (hx:ev env x=some (en p)) (hy:ev env y=some (en q)) (hq:0<q):
    (execOp a.eval ⟨dst,.binOp .rem t x y t',ty,pos,af,g⟩).run P w=.ok (.value (en (p % q))) w:=by
  have h0:¬((q:Int)=0):=by omega
  have h1:(p:Int).tmod q=((p % q:Nat):Int):=rfl;simp only[execOp,ha.ev hx,ha.ev hy,eqGuard,binOp,Op.intDiv,h1,if_neg h0];simp
theorem rn_quo (ha:Has n env a) (p q:Nat) (hx:ev env x=some (en p)) (hy:ev env y=some (en q)) (hq:0<q) (hp:p≤9223372036854775807):
    (execOp a.eval ⟨dst,.binOp .quo t x y t',ty,pos,af,g⟩).run P w=.ok (.value (en (p / q))) w:=by
  have h0:¬((q:Int)=0):=by omega
  have h1:((p:Int)).tdiv q=((p / q:Nat):Int):=by rw[Int.tdiv_eq_ediv_of_nonneg (by omega)];simp
  have h2:p / q≤p:=Nat.div_le_self p q;have h3:∀ r:Nat,r≤p→IntKind.i64.wrap (r:Int)=r:=fun r hr=>i64_in (by omega) (by omega);simp only[execOp,ha.ev hx,ha.ev hy,eqGuard,binOp,Op.intDiv,h1,if_neg h0,h3 _ h2];simp

/- comparisons: integers of whatever kind -/
theorem r_lss (ha:Has n env a) {k:IntKind} (p q:Int) (c:Bool) (hx:ev env x=some (.int k p)) (hy:ev env y=some (.int k q)) (hc:decide (p<q)=c):
    (execOp a.eval ⟨dst,.binOp .lss t x y t',ty,pos,af,g⟩).run P w=.ok (.value (.bool c)) w:=by
  subst hc;simp[execOp,ha.ev hx,ha.ev hy,eqGuard,binOp,Op.intCmp]
theorem r_gtr (ha:Has n env a) {k:IntKind} (p q:Int) (c:Bool) (hx:ev env x=some (.int k p)) (hy:ev env y=some (.int k q)) (hc:decide (q<p)=c):
    (execOp a.eval ⟨dst,.binOp .gtr t x y t',ty,pos,af,g⟩).run P w=.ok (.value (.bool c)) w:=by
  subst hc;simp[execOp,ha.ev hx,ha.ev hy,eqGuard,binOp,Op.intCmp]
theorem r_geq (ha:Has n env a) {k:IntKind} (p q:Int) (c:Bool) (hx:ev env x=some (.int k p)) (hy:ev env y=some (.int k q)) (hc:decide (q≤p)=c):
    (execOp a.eval ⟨dst,.binOp .geq t x y t',ty,pos,af,g⟩).run P w=.ok (.value (.bool c)) w:=by
  subst hc;simp[execOp,ha.ev hx,ha.ev hy,eqGuard,binOp,Op.intCmp]
theorem r_eql (ha:Has n env a) {k:IntKind} (p q:Int) (c:Bool) (hx:ev env x=some (.int k p)) (hy:ev env y=some (.int k q)) (hc:decide (p=q)=c):
    (execOp a.eval ⟨dst,.binOp .eql t x y t',ty,pos,af,g⟩).run P w=.ok (.value (.bool c)) w:=by
  subst hc;simp[execOp,ha.ev hx,ha.ev hy,eqGuard,binOp,Op.intCmp];exact Bool.beq_eq_decide_eq _ _
theorem r_not (ha:Has n env a) (b c:Bool) (hx:ev env x=some (.bool b)) (hc:(!b)=c):(execOp a.eval ⟨dst,.unOp .not t x,ty,pos,af,g⟩).run P w=.ok (.value (.bool c)) w:=by
  subst hc;simp[execOp,ha.ev hx,Op.unary]
end
end
end Go.Rx

/- The operations of the calculus: numbers without sign, and shifts. -/
namespace Go.Rx
open Go.RowKit

theorem wrap_u64 {z:Int} (h0:0≤z) (h1:z<18446744073709551616):IntKind.u64.wrap z=z:=by
  unfold IntKind.wrap;simp[IntKind.bits,IntKind.signed];omega
theorem wrap_u8 {z:Int} (h0:0≤z) (h1:z<256):IntKind.u8.wrap z=z:=by
  unfold IntKind.wrap;simp[IntKind.bits,IntKind.signed];omega
theorem mod_u64 (z:Int):IntKind.u64.wrap z=z % 18446744073709551616:=by unfold IntKind.wrap;simp[IntKind.bits,IntKind.signed]
theorem mod_u8 (z:Int):IntKind.u8.wrap z=z % 256:=by unfold IntKind.wrap;simp[IntKind.bits,IntKind.signed]

theorem ofInt64 (x:UInt64):BitVec.ofInt 64 (x.toNat:Int)=x.toBitVec:=by simp
theorem ofInt8 (x:UInt8):BitVec.ofInt 8 (x.toNat:Int)=x.toBitVec:=by simp
theorem lt64 (x:UInt64):(x.toNat:Int)<18446744073709551616:=by have:=x.toNat_lt;omega
theorem lt8 (x:UInt8):(x.toNat:Int)<256:=by have:=x.toNat_lt;omega

section
variable {P:Program} {n:Nat} {env:Env} {a:Act} {w:World} {dst:Option Tmp} {ty:TypeId} {pos:String} {af:Array Edge} {g:Option (Nat × Bool)} {x y z:Operand} {t t':TypeId}

theorem back64 (r:UInt64):IntKind.u64.wrap (r.toBitVec.toNat:Int)=(r.toNat:Int):=wrap_u64 (by omega) (lt64 r)
theorem back8 (r:UInt8):IntKind.u8.wrap (r.toBitVec.toNat:Int)=(r.toNat:Int):=wrap_u8 (by omega) (lt8 r)

theorem ru_xor (ha:Has n env a) (p q:UInt64) (hx:ev env x=some (e64 p)) (hy:ev env y=some (e64 q)):
    (execOp a.eval ⟨dst,.binOp .xor t x y t',ty,pos,af,g⟩).run P w=.ok (.value (e64 (p^^^q))) w:=by
  have e:IntKind.u64.wrap ((BitVec.ofInt 64 (p.toNat:Int)^^^BitVec.ofInt 64 (q.toNat:Int)).toNat:Int)=((p^^^q).toNat:Int):=by
    rw[ofInt64,ofInt64];exact back64 (p^^^q)
  have h:Op.intBits .xor .u64 (p.toNat:Int) (q.toNat:Int)=pure (e64 (p^^^q)):=congrArg (fun z=>pure (Value.int .u64 z)) e;simp only[execOp,ha.ev hx,ha.ev hy,binOp,h];simp[eqGuard]
theorem ru_or (ha:Has n env a) (p q:UInt64) (hx:ev env x=some (e64 p)) (hy:ev env y=some (e64 q)):
    (execOp a.eval ⟨dst,.binOp .or t x y t',ty,pos,af,g⟩).run P w=.ok (.value (e64 (p|||q))) w:=by
  have e:IntKind.u64.wrap ((BitVec.ofInt 64 (p.toNat:Int)|||BitVec.ofInt 64 (q.toNat:Int)).toNat:Int)=((p|||q).toNat:Int):=by
    rw[ofInt64,ofInt64];exact back64 (p|||q)
  have h:Op.intBits .or .u64 (p.toNat:Int) (q.toNat:Int)=pure (e64 (p|||q)):=congrArg (fun z=>pure (Value.int .u64 z)) e;simp only[execOp,ha.ev hx,ha.ev hy,binOp,h];simp[eqGuard]
theorem ru_andNot (ha:Has n env a) (p q:UInt64) (hx:ev env x=some (e64 p)) (hy:ev env y=some (e64 q)):
    (execOp a.eval ⟨dst,.binOp .andNot t x y t',ty,pos,af,g⟩).run P w=.ok (.value (e64 (p&&& ~~~q))) w:=by
  have e:IntKind.u64.wrap ((BitVec.ofInt 64 (p.toNat:Int)&&& ~~~(BitVec.ofInt 64 (q.toNat:Int))).toNat:Int)=((p&&& ~~~q).toNat:Int):=by
    rw[ofInt64,ofInt64];exact back64 (p&&& ~~~q)
  have h:Op.intBits .andNot .u64 (p.toNat:Int) (q.toNat:Int)=pure (e64 (p&&& ~~~q)):=congrArg (fun z=>pure (Value.int .u64 z)) e;simp only[execOp,ha.ev hx,ha.ev hy,binOp,h];simp[eqGuard]
theorem rb_xor (ha:Has n env a) (p q:UInt8) (hx:ev env x=some (e8 p)) (hy:ev env y=some (e8 q)):
    (execOp a.eval ⟨dst,.binOp .xor t x y t',ty,pos,af,g⟩).run P w=.ok (.value (e8 (p^^^q))) w:=by
  have e:IntKind.u8.wrap ((BitVec.ofInt 8 (p.toNat:Int)^^^BitVec.ofInt 8 (q.toNat:Int)).toNat:Int)=((p^^^q).toNat:Int):=by
    rw[ofInt8,ofInt8];exact back8 (p^^^q)
  have h:Op.intBits .xor .u8 (p.toNat:Int) (q.toNat:Int)=pure (e8 (p^^^q)):=congrArg (fun z=>pure (Value.int .u8 z)) e;simp only[execOp,ha.ev hx,ha.ev hy,binOp,h];simp[eqGuard]
/-! ### Shifts: the count a number no less than nought, of whatever kind -/
theorem fdiv_nat (p k:Nat):Int.fdiv (p:Int) (2 ^ k)=((p >>> k:Nat):Int):=by
  rw[Int.fdiv_eq_ediv_of_nonneg _ (by exact Int.pow_nonneg (by omega)),Nat.shiftRight_eq_div_pow];simp

theorem ru_shr (ha:Has n env a) (p:UInt64) {k:IntKind} (q:Nat) (hx:ev env x=some (e64 p)) (hy:ev env y=some (.int k q)) (hq:q<64):
    (execOp a.eval ⟨dst,.binOp .shr t x y t',ty,pos,af,g⟩).run P w=.ok (.value (e64 (p >>> UInt64.ofNat q))) w:=by
  have e:Int.fdiv (p.toNat:Int) (2 ^ q)=((p >>> UInt64.ofNat q).toNat:Int):=by
    rw[fdiv_nat,UInt64.toNat_shiftRight];have:(UInt64.ofNat q).toNat % 64=q:=by simp;omega
    rw[this]
  have h:Op.shift .shr .u64 (p.toNat:Int) k (q:Int)=pure (e64 (p >>> UInt64.ofNat q)):=by
    unfold Op.shift;rw[if_neg (by omega)];simp only[Int.toNat_natCast,IntKind.bits,show min q 64=q by omega,e]
  simp only[execOp,ha.ev hx,ha.ev hy,binOp,h];simp[eqGuard]
theorem ru_shl (ha:Has n env a) (p:UInt64) {k:IntKind} (q:Nat) (hx:ev env x=some (e64 p)) (hy:ev env y=some (.int k q)) (hq:q<64):
    (execOp a.eval ⟨dst,.binOp .shl t x y t',ty,pos,af,g⟩).run P w=.ok (.value (e64 (p <<< UInt64.ofNat q))) w:=by
  have e:IntKind.u64.wrap ((p.toNat:Int)*2 ^ q)=((p <<< UInt64.ofNat q).toNat:Int):=by
    have h2:(UInt64.ofNat q).toNat % 64=q:=by simp;omega
    rw[mod_u64,UInt64.toNat_shiftLeft,h2,Nat.shiftLeft_eq,Int.natCast_emod,Int.natCast_mul,Int.natCast_pow]
    rfl
  have h:Op.shift .shl .u64 (p.toNat:Int) k (q:Int)=pure (e64 (p <<< UInt64.ofNat q)):=by
    unfold Op.shift;rw[if_neg (by omega)];simp only[Int.toNat_natCast,IntKind.bits,show min q 64=q by omega,e]
  simp only[execOp,ha.ev hx,ha.ev hy,binOp,h];simp[eqGuard]
/- int: shifts and masks -/
theorem toNat_mask (p:Int) (j:Nat) (hj:j≤63):(BitVec.ofInt 64 p&&&BitVec.ofInt 64 ((2 ^ j - 1:Nat):Int)).toNat=(p % (2 ^ j:Nat)).toNat:=by
  have h1:BitVec.ofInt 64 ((2 ^ j - 1:Nat):Int)=BitVec.ofNat 64 (2 ^ j - 1):=by simp
  have hlt:2 ^ j - 1<2 ^ 64:=by have:2 ^ j≤2 ^ 63:=Nat.pow_le_pow_right (by omega) hj;omega
  rw[h1,BitVec.toNat_and,BitVec.toNat_ofNat,Nat.mod_eq_of_lt hlt,Nat.and_two_pow_sub_one_eq_mod,BitVec.toNat_ofInt];have hd:((2 ^ j:Nat):Int)∣(2 ^ 64:Nat):=Int.natCast_dvd_natCast.2 (Nat.pow_dvd_pow 2 (by omega));have hp:(0:Int)<(2 ^ j:Nat):=Int.natCast_pos.2 (Nat.two_pow_pos j);have h0:0≤p % (2 ^ 64:Nat):=Int.emod_nonneg _ (by decide);have h2:(p % (2 ^ 64:Nat)) % (2 ^ j:Nat)=p % (2 ^ j:Nat):=Int.emod_emod_of_dvd p hd;have h3:((p % (2 ^ 64:Nat)).toNat % 2 ^ j:Nat)=((p % (2 ^ 64:Nat)) % (2 ^ j:Nat)).toNat:=by
    rw[Int.toNat_emod h0 (Int.le_of_lt hp),Int.toNat_natCast]
  rw[h3,h2]

/-- 'x & (2^j - 1)' of any int. -/
theorem r_mask (ha:Has n env a) (p:Int) (j:Nat) (hj:j≤62) {m:Nat} (hm:m=2 ^ j - 1) (hx:ev env x=some (ei p)) (hy:ev env y=some (en m)):
    (execOp a.eval ⟨dst,.binOp .and t x y t',ty,pos,af,g⟩).run P w=.ok (.value (en (p % (2 ^ j:Nat)).toNat)) w:=by
  subst hm;have e:=toNat_mask p j (by omega);have hlt:(p % (2 ^ j:Nat)).toNat<2 ^ j:=by
    have hp:(0:Int)<(2 ^ j:Nat):=Int.natCast_pos.2 (Nat.two_pow_pos j);have:=Int.emod_lt_of_pos p hp;have:=Int.emod_nonneg p (Int.ne_of_gt hp);omega
  have hle:2 ^ j≤2 ^ 62:=Nat.pow_le_pow_right (by omega) hj;have e2:IntKind.i64.wrap (((p % (2 ^ j:Nat)).toNat:Nat):Int)=((p % (2 ^ j:Nat)).toNat:Int):=i64_in (by omega) (by omega);have h:Op.intBits .and .i64 p ((2 ^ j - 1:Nat):Int)=pure (en (p % (2 ^ j:Nat)).toNat):=by
    have e3:IntKind.i64.wrap (((BitVec.ofInt 64 p&&&BitVec.ofInt 64 ((2 ^ j - 1:Nat):Int)).toNat:Nat):Int)=((p % (2 ^ j:Nat)).toNat:Int):=by rw[e];exact e2
    exact congrArg (fun z=>pure (Value.int .i64 z)) e3
  simp only[execOp,ha.ev hx,ha.ev hy,binOp,h];simp[eqGuard]
end
end Go.Rx

/- Plain functions: the permutation as the program reckons it. No program and no memory here. -/
namespace Go.Rx

/-- A shift to the right by whatever number. -/
def shrG (p:UInt64) (q:Nat):UInt64:=if q≥64 then 0 else p >>> UInt64.ofNat q
def rotl (x:UInt64) (k:Nat):UInt64:=x <<< UInt64.ofNat (k % 2 ^ 6)|||shrG x (64 - k % 2 ^ 6)

def turns:List Nat:=[0,1,62,28,27,36,44,6,55,20,3,10,43,25,39,41,45,15,21,8,18,2,61,56,14]
theorem turns_lt:∀ i,i<25→turns.getD i 0<64:=by decide
def consts:List UInt64:=[0x0000000000000001,0x0000000000008082,0x800000000000808a,0x8000000080008000,0x000000000000808b,0x0000000080000001,0x8000000080008081,0x8000000000008009,
  0x000000000000008a,0x0000000000000088,0x0000000080008009,0x000000008000000a,0x000000008000808b,0x800000000000008b,0x8000000000008089,0x8000000000008003,
  0x8000000000008002,0x8000000000000080,0x000000000000800a,0x800000008000000a,0x8000000080008081,0x8000000000008080,0x0000000080000001,0x8000000080008008]

def thC (l:List UInt64):Nat→List UInt64
  | 0=>List.replicate 5 0
  | k+1=>(thC l k).set k (l.getD k 0^^^l.getD (k+5) 0^^^l.getD (k+10) 0^^^l.getD (k+15) 0^^^l.getD (k+20) 0)
theorem thC_len (l:List UInt64):∀ k,(thC l k).length=5
  | 0=>lR
  | k+1=>by rw[thC,List.length_set];exact thC_len l k
def thA (l:List UInt64):Nat→List UInt64
  | 0=>l
  | k+1=>(thA l k).set k ((thA l k).getD k 0^^^((thC l 5).getD ((k % 5+4) % 5) 0^^^rotl ((thC l 5).getD ((k % 5+1) % 5) 0) 1))
theorem thA_len (l:List UInt64):∀ k,(thA l k).length=l.length
  | 0=>rfl
  | k+1=>by rw[thA,List.length_set];exact thA_len l k
def theta (l:List UInt64):List UInt64:=thA l 25
theorem theta_len (l:List UInt64):(theta l).length=l.length:=thA_len l 25

def rhoA (l:List UInt64):Nat→List UInt64
  | 0=>l
  | k+1=>(rhoA l k).set k (rotl ((rhoA l k).getD k 0) (turns.getD k 0))
theorem rhoA_len (l:List UInt64):∀ k,(rhoA l k).length=l.length
  | 0=>rfl
  | k+1=>by rw[rhoA,List.length_set];exact rhoA_len l k
def rho (l:List UInt64):List UInt64:=rhoA l 25
theorem rho_len (l:List UInt64):(rho l).length=l.length:=rhoA_len l 25

def piA (l:List UInt64):Nat→List UInt64
  | 0=>List.replicate 25 0
  | k+1=>(piA l k).set k (l.getD ((k % 5+3*(k / 5)) % 5+5*(k % 5)) 0)
theorem piA_len (l:List UInt64):∀ k,(piA l k).length=25
  | 0=>lR
  | k+1=>by rw[piA,List.length_set];exact piA_len l k
def pi (l:List UInt64):List UInt64:=piA l 25
theorem pi_len (l:List UInt64):(pi l).length=25:=piA_len l 25

def chiA (l:List UInt64):Nat→List UInt64
  | 0=>l
  | k+1=>(chiA l k).set k ((chiA l k).getD k 0^^^(l.getD (k - k % 5+(k % 5+2) % 5) 0&&& ~~~(l.getD (k - k % 5+(k % 5+1) % 5) 0)))
theorem chiA_len (l:List UInt64):∀ k,(chiA l k).length=l.length
  | 0=>rfl
  | k+1=>by rw[chiA,List.length_set];exact chiA_len l k
def chi (l:List UInt64):List UInt64:=chiA l 25
theorem chi_len (l:List UInt64):(chi l).length=l.length:=chiA_len l 25

theorem consts_ne:∀ k,k<24→consts.getD k 0≠0:=by decide
/-- For a round from 0 to 23. -/
def iota (l:List UInt64) (k:Nat):List UInt64:=l.set 0 (l.getD 0 0^^^consts.getD k 0)
theorem iota_len (l:List UInt64) (k:Nat):(iota l k).length=l.length:=by rw[iota,List.length_set]

theorem iota_zero (k:Nat) (hk:k<24):¬iota (List.replicate 25 0) k=List.replicate 25 0:=by
  intro h;have h2:=congrArg (fun m=>m.getD 0 0) h;simp[iota,List.replicate] at h2;exact consts_ne k hk h2

def kround (l:List UInt64) (k:Nat):List UInt64:=iota (chi (pi (rho (theta l)))) k
theorem kround_len (l:List UInt64) (k:Nat):(kround l k).length=25:=by rw[kround,iota_len,chi_len,pi_len]

def kfA (l:List UInt64):Nat→List UInt64
  | 0=>l
  | k+1=>kround (kfA l k) k
theorem kfA_len (l:List UInt64) (h:l.length=25):∀ k,(kfA l k).length=25
  | 0=>h
  | _+1=>kround_len _ _
def kf (l:List UInt64):List UInt64:=kfA l 24
theorem kf_len (l:List UInt64) (h:l.length=25):(kf l).length=25:=kfA_len l h 24
end Go.Rx

/- The operations of the calculus: conversions, slices. -/
namespace Go.Rx
open Go.RowKit

theorem inj64 (x y:UInt64) (h:(x.toNat:Int)=y.toNat):x=y:=UInt64.toNat_inj.1 (by omega)
section arrays
variable {P:Program} {w:World}
theorem run_part1 {e o:Nat} {C:Array Value} {u:Value} (hagg:∀ w,(isAgg e).run P w=.ok false w) (hu:C[o]?=some u):(part e C o).run P w=.ok u w:=by
  simp[part,hagg,hu]

theorem loop_eq {e d:Nat} {len:Nat} {k:IntKind} (hE:P.underlying e=some (.int k)) (hagg:∀ w,(isAgg e).run P w=.ok false w) (p q:List Int) (hp:p.length=len) (hq:q.length=len) (F:Nat→Option Bool × Unit→Sem (ForInStep (Option Bool × Unit)))
    (hF:∀ i s,F i s=(do
        let a ← part e (p.map (Value.int k)).toArray (i*1)
        let b ← part e (q.map (Value.int k)).toArray (i*1)
        let r ← Op.equalIn (d+1) e a b
        if(!r)=true then pure (ForInStep.done (some false,())) else pure (ForInStep.yield (none,())))):
    ∀ (m i:Nat),i+m=len→(forIn (List.range' i m) ((none:Option Bool),()) F).run P w=.ok (if p.drop i=q.drop i then none else some false,()) w:=by
  intro m
  induction m with
  | zero=>
    intro i hi;rw[List.drop_of_length_le (by omega),List.drop_of_length_le (by omega)];simp
  | succ m ih=>
    intro i hi;have h1:i<p.length:=by omega
    have h2:i<q.length:=by omega
    rw[List.range'_succ,List.forIn_cons,hF];have e1:(part e (p.map (Value.int k)).toArray (i*1)).run P w=.ok (.int k p[i]) w:=run_part1 hagg (by simp[h1]);have e2:(part e (q.map (Value.int k)).toArray (i*1)).run P w=.ok (.int k q[i]) w:=run_part1 hagg (by simp[h2]);simp only[Sem.run_bind,e1,e2,Result.andThen_ok,run_equalIn_int w d e k k _ _ hE];by_cases hpq:p[i]=q[i]
    · have hd:(p.drop i=q.drop i)↔(p.drop (i+1)=q.drop (i+1)):=by
        rw[List.drop_eq_getElem_cons h1,List.drop_eq_getElem_cons h2];simp only[hpq,List.cons.injEq,true_and]
      have:=ih (i+1) (by omega);simp only[hpq,beq_self_eq_true,Bool.not_true,Bool.false_eq_true,if_false,Sem.run_pure,Result.andThen_ok,hd];exact this
    · have hd:¬(p.drop i=q.drop i):=by
        rw[List.drop_eq_getElem_cons h1,List.drop_eq_getElem_cons h2];intro h;simp only[List.cons.injEq] at h;exact hpq h.1
      simp[hpq,hd]

theorem run_equalArr {t e d len:Nat} {k:IntKind} (p q:List Int) (hp:p.length=len) (hq:q.length=len) (hT:∀ w,(underlying t).run P w=.ok (.array len e) w) (hsz:∀ w,(sizeOf e).run P w=.ok 1 w) (hE:P.underlying e=some (.int k)) (hagg:∀ w,(isAgg e).run P w=.ok false w):
    (Op.equalIn (d+2) t (.agg (p.map (Value.int k)).toArray) (.agg (q.map (Value.int k)).toArray)).run P w=.ok (decide (p=q)) w:=by
  rw[Op.equalIn];simp only[Sem.run_bind,hT,hsz,Result.andThen_ok];rw[Std.Legacy.Range.forIn_eq_forIn_range'];simp only[Std.Legacy.Range.size,Nat.sub_zero,Nat.add_sub_cancel,Nat.div_one];have h:=loop_eq (P:=P) (w:=w) (d:=d) hE hagg p q hp hq _ (fun i s=>rfl) len 0 (by omega);rw[h];by_cases hpq:p=q <;> simp[hpq]

section
variable {n:Nat} {env:Env} {a:Act} {dst:Option Tmp} {ty:TypeId} {pos:String} {af:Array Edge} {g:Option (Nat × Bool)} {x y z:Operand} {t t':TypeId} {v:Value}
theorem run_eqArr {e len:Nat} {k:IntKind} (p q:List Int) (hp:p.length=len) (hq:q.length=len) (hT:∀ w,(underlying t).run P w=.ok (.array len e) w) (hsz:∀ w,(sizeOf e).run P w=.ok 1 w) (hE:P.underlying e=some (.int k)) (hagg:∀ w,(isAgg e).run P w=.ok false w):
    (binOp .eql t (.agg (p.map (Value.int k)).toArray) (.agg (q.map (Value.int k)).toArray)).run P w=.ok (.bool (decide (p=q))) w:=by
  have h:=run_equalArr (P:=P) (w:=w) (d:=9998) p q hp hq hT hsz hE hagg;simp only[binOp,Op.equal,Op.maxDepth,Sem.run_bind,h,Result.andThen_ok];simp

theorem r_eqA {α:Type} [DecidableEq α] {f:α→Int} {e len:Nat} {k:IntKind} (hf:∀ x y:α,f x=f y→x=y) (p q:List α) (ha:Has n env a) (hx:ev env x=some (.agg (p.map fun z=>Value.int k (f z)).toArray)) (hy:ev env y=some (.agg (q.map fun z=>Value.int k (f z)).toArray)) (hp:p.length=len) (hq:q.length=len)
    (hG:P.eqGuardType P.depth t=false) (hT:∀ w,(underlying t).run P w=.ok (.array len e) w) (hsz:∀ w,(sizeOf e).run P w=.ok 1 w) (hE:P.underlying e=some (.int k)) (hagg:∀ w,(isAgg e).run P w=.ok false w) (c:Bool) (hc:decide (p=q)=c):
    (execOp a.eval ⟨dst,.binOp .eql t x y t',ty,pos,af,g⟩).run P w=.ok (.value (.bool c)) w:=by
  subst hc;have h:=run_eqArr (P:=P) (w:=w) (t:=t) (k:=k) (p.map f) (q.map f) (by simpa using hp) (by simpa using hq) hT hsz hE hagg;have hinj:(p.map f=q.map f)↔(p=q):=⟨fun e=>List.map_inj_right (fun x y h=>hf x y h) |>.1 e,fun e=>by rw[e]⟩;simp only[List.map_map,hinj] at h;have e0:(eqGuard .eql t x y (.agg (p.map fun z=>Value.int k (f z)).toArray) (.agg (q.map fun z=>Value.int k (f z)).toArray)).run P w=.ok () w:=by
    simp[eqGuard,hG]
  simp only[execOp,ha.ev hx,ha.ev hy,Sem.run_bind,e0,Result.andThen_ok];have h':(binOp .eql t (.agg (p.map fun z=>Value.int k (f z)).toArray) (.agg (q.map fun z=>Value.int k (f z)).toArray)).run P w=.ok (.bool (decide (p=q))) w:=h;rw[h'];simp
end
end arrays

section
variable {P:Program} {n:Nat} {env:Env} {a:Act} {w w':World} {dst:Option Tmp} {ty:TypeId} {pos:String} {af:Array Edge} {g:Option (Nat × Bool)} {x y z:Operand} {t t':TypeId} {v:Value}

/-! ### Conversions -/
theorem r_conv_int (ha:Has n env a) {k f:IntKind} {s d:TypeId} {m r:Int} (hs:∀ w,(underlying s).run P w=.ok (.int f) w) (hd:∀ w,(underlying d).run P w=.ok (.int k) w) (hx:ev env x=some (.int f m)) (hr:k.wrap m=r):
    (execOp a.eval ⟨dst,.convert s d x,ty,pos,af,g⟩).run P w=.ok (.value (.int k r)) w:=by
  subst hr;simp[execOp,ha.ev hx,convert,hs,hd,Conv.intToInt]
theorem r_conv_n_u64 (ha:Has n env a) (p:Nat) {s d:TypeId} (hs:∀ w,(underlying s).run P w=.ok (.int .i64) w) (hd:∀ w,(underlying d).run P w=.ok (.int .u64) w) (hx:ev env x=some (en p)) (hp:p≤9223372036854775807):
    (execOp a.eval ⟨dst,.convert s d x,ty,pos,af,g⟩).run P w=.ok (.value (.int .u64 (p:Int))) w:=
  r_conv_int ha hs hd hx (wrap_u64 (by omega) (by omega))
theorem r_conv_u8_u64 (ha:Has n env a) (p:UInt8) {s d:TypeId} (hs:∀ w,(underlying s).run P w=.ok (.int .u8) w) (hd:∀ w,(underlying d).run P w=.ok (.int .u64) w) (hx:ev env x=some (e8 p)):
    (execOp a.eval ⟨dst,.convert s d x,ty,pos,af,g⟩).run P w=.ok (.value (e64 p.toUInt64)) w:=
  r_conv_int ha hs hd hx (by rw[UInt8.toNat_toUInt64];exact wrap_u64 (by omega) (by have:=lt8 p;omega))
theorem r_conv_u64_u8 (ha:Has n env a) (p:UInt64) {s d:TypeId} (hs:∀ w,(underlying s).run P w=.ok (.int .u64) w) (hd:∀ w,(underlying d).run P w=.ok (.int .u8) w) (hx:ev env x=some (e64 p)):
    (execOp a.eval ⟨dst,.convert s d x,ty,pos,af,g⟩).run P w=.ok (.value (e8 p.toUInt8)) w:=
  r_conv_int ha hs hd hx (by rw[mod_u8,UInt64.toNat_toUInt8];omega)
theorem rn_min (ha:Has n env a) (p q:Nat) {tys:Array TypeId} (hx:ev env x=some (en p)) (hy:ev env y=some (en q)):
    (execOp a.eval ⟨dst,.call ⟨.builtin .min,#[x,y],tys⟩,ty,pos,af,g⟩).run P w=.ok (.value (en (min p q))) w:=by
  simp[execOp,resolve,ha.ev hx,ha.ev hy,invoke,builtin,Builtin.min_,Builtin.min2];omega
theorem rn_max (ha:Has n env a) (p q:Nat) {tys:Array TypeId} (hx:ev env x=some (en p)) (hy:ev env y=some (en q)):
    (execOp a.eval ⟨dst,.call ⟨.builtin .max,#[x,y],tys⟩,ty,pos,af,g⟩).run P w=.ok (.value (en (max p q))) w:=by
  simp[execOp,resolve,ha.ev hx,ha.ev hy,invoke,builtin,Builtin.max_,Builtin.max2];omega
/-! ### A u64 told by a number -/
theorem rx_mask (ha:Has n env a) (p:Nat) (j:Nat) (hj:j≤62) {m:Nat} (hm:m=2 ^ j - 1) (hp:p≤9223372036854775807) (hx:ev env x=some (.int .u64 (p:Int))) (hy:ev env y=some (.int .u64 (m:Int))):
    (execOp a.eval ⟨dst,.binOp .and t x y t',ty,pos,af,g⟩).run P w=.ok (.value (.int .u64 ((p % 2 ^ j:Nat):Int))) w:=by
  subst hm;have e:(BitVec.ofInt 64 (p:Int)&&&BitVec.ofInt 64 ((2 ^ j - 1:Nat):Int)).toNat=p % 2 ^ j:=by
    rw[toNat_mask _ _ (by omega),← Int.natCast_emod,Int.toNat_natCast]
  have h2:p % 2 ^ j≤p:=Nat.mod_le _ _;have e3:∀ r:Nat,r≤p→IntKind.u64.wrap (r:Int)=r:=fun r hr=>wrap_u64 (by omega) (by omega);have h:Op.intBits .and .u64 (p:Int) ((2 ^ j - 1:Nat):Int)=pure (.int .u64 ((p % 2 ^ j:Nat):Int)):=by
    have e4:IntKind.u64.wrap (((BitVec.ofInt 64 (p:Int)&&&BitVec.ofInt 64 ((2 ^ j - 1:Nat):Int)).toNat:Nat):Int)=((p % 2 ^ j:Nat):Int):=by rw[e];exact e3 _ h2
    exact congrArg (fun z=>pure (Value.int .u64 z)) e4
  simp only[execOp,ha.ev hx,ha.ev hy,binOp,h];simp[eqGuard]
theorem rx_sub (ha:Has n env a) (p q:Nat) (hx:ev env x=some (.int .u64 (p:Int))) (hy:ev env y=some (.int .u64 (q:Int))) (h:q≤p) (hp:p≤18446744073709551615):
    (execOp a.eval ⟨dst,.binOp .sub t x y t',ty,pos,af,g⟩).run P w=.ok (.value (.int .u64 ((p - q:Nat):Int))) w:=by
  have e:IntKind.u64.wrap ((p:Int) - (q:Int))=((p - q:Nat):Int):=by rw[wrap_u64 (by omega) (by omega)];omega
  simp[execOp,ha.ev hx,ha.ev hy,eqGuard,binOp,Op.intArith,e]
theorem ru_shrG (ha:Has n env a) (p:UInt64) {k:IntKind} (q:Nat) (hx:ev env x=some (e64 p)) (hy:ev env y=some (.int k q)):
    (execOp a.eval ⟨dst,.binOp .shr t x y t',ty,pos,af,g⟩).run P w=.ok (.value (e64 (shrG p q))) w:=by
  by_cases hq:q<64
  · have e:shrG p q=p >>> UInt64.ofNat q:=if_neg (by omega)
    rw[e];exact ru_shr ha p q hx hy hq
  · have e0:shrG p q=0:=if_pos (by omega)
    have e:Int.fdiv (p.toNat:Int) (2 ^ 64)=0:=by
      rw[Int.fdiv_eq_ediv_of_nonneg _ (by decide)];have:=lt64 p;omega
    have h:Op.shift .shr .u64 (p.toNat:Int) k (q:Int)=pure (e64 0):=by
      unfold Op.shift;rw[if_neg (by omega)];simp only[Int.toNat_natCast,IntKind.bits,show min q 64=64 by omega,e]
      rfl
    rw[e0];simp only[execOp,ha.ev hx,ha.ev hy,binOp,h];simp[eqGuard]

/-! ### Slices of one-cell elements -/
/-- In w the slice value v reads as the cells C. -/
def Sl (w:World) (v:Value) (C:List Value):Prop:=
  ∃ a cap,v=.slice a C.length cap∧C.length≤cap∧(∀ x,a=some x→x.spot=none∧x.block<w.heap.size∧∀ j u,C[j]?=some u→w.cell? ⟨x.block,x.off+j,none⟩=some u)∧(a=none→C=[]∧cap=0)

def ptrOf (v:Value) (i:Nat):Value:=
  match v with
  | .slice (some a) _ _=>.pointer (some ⟨a.block,a.off+i,none⟩)
  | _=>undef

theorem Sl.same {C:List Value} (h:Sl w v C) (hs:w.heap.size≤w'.heap.size) (hb:∀ k,v.ownBlock=some k→w'.heap[k]?=w.heap[k]?):Sl w' v C:=by
  obtain⟨a,cap,hv,hc,hx,hn⟩:=h;refine⟨a,cap,hv,hc,fun x e=>?_,hn⟩;subst e;obtain⟨h1,h2,h3⟩:=hx x rfl;have hk:=hb x.block (by rw[hv];rfl);refine⟨h1,Nat.lt_of_lt_of_le h2 hs,fun j u hu=>?_⟩;rw[World.cell?_of_block (w:=w) (a:=⟨x.block,x.off+j,none⟩) hk];exact h3 j u hu

theorem Sl.lt {C:List Value} (h:Sl w v C):∀ k,v.ownBlock=some k→k<w.heap.size:=by
  intro k hk;obtain⟨a,cap,hv,hc,hx,hn⟩:=h
  cases a with
  | none=>rw[hv] at hk;simp[Value.ownBlock] at hk
  | some x=>rw[hv] at hk;simp[Value.ownBlock] at hk;rw[← hk];exact(hx x rfl).2.1

theorem Sl.below {C:List Value} (h:Sl w v C) (hb:Below w.heap.size w w'):Sl w' v C:=h.same hb.size fun k hk=>hb.block k (h.lt k hk)
theorem keepS0 {C:List Value} (hg:w.grownBy w' none) (h:Sl w v C):Sl w' v C:=h.same hg.size fun k hk=>hg.block k (h.lt k hk) (by simp)
theorem keepS1 {C:List Value} {b:Nat} (hg:w.grownBy w' (some b)) (hne:v.ownBlock≠some b) (h:Sl w v C):Sl w' v C:=
  h.same hg.size fun k hk=>hg.block k (h.lt k hk) (by intro e;exact hne (by rw[hk,e]))

theorem Sl.nil (w:World):Sl w (.slice none 0 0) []:=⟨none,0,rfl,Nat.le_refl _,fun x e=>(by cases e),fun _=>⟨rfl,rfl⟩⟩

/-- A slice over the head of a block. -/
theorem Sl.ofBlock {b t cap:Nat} {C D:List Value} {fr:Nat × Nat} (hb:w.heap[b]?=some (.cells D.toArray t fr)) (hc:D.take C.length=C) (hcap:C.length≤cap):Sl w (.slice (some ⟨b,0,none⟩) C.length cap) C:=
  ⟨_,cap,rfl,hcap,fun x e=>(by cases e;exact⟨rfl,lt_of_block hb,cells_of 0 hb (by simpa using hc)⟩),fun e=>(by cases e)⟩

theorem Sl.ofBlockP {α:Type} {f:α→Value} {l m:List α} {b t cap k:Nat} {R:List Value} {fr:Nat × Nat} (hb:w.heap[b]?=some (.cells (l.map f++R).toArray t fr)) (hm:m.length=k) (hl:l.take k=m) (hcap:k≤cap):Sl w (.slice (some ⟨b,0,none⟩) k cap) (m.map f):=by
  subst hm;have h1:m.length≤l.length:=by rw[← hl,List.length_take];omega
  have:=Sl.ofBlock (w:=w) (cap:=cap) (C:=m.map f) hb (by rw[lM,List.take_append_of_le_length (by simpa using h1),← List.map_take,hl]) (by simpa using hcap);simpa using this
theorem Sl.ofBlockM {α:Type} {f:α→Value} {l:List α} {b t cap m:Nat} {fr:Nat × Nat} (hb:w.heap[b]?=some (.cells (l.map f).toArray t fr)) (hm:l.length=m) (hcap:m≤cap):Sl w (.slice (some ⟨b,0,none⟩) m cap) (l.map f):=
  Sl.ofBlockP (R:=[]) (l:=l) (by simpa using hb) hm (by rw[← hm];exact List.take_length) hcap

theorem r_lenS (ha:Has n env a) {e:TypeId} {m:Nat} {C:List Value} (hT:∀ w,(underlying t).run P w=.ok (.slice e) w) (hs:Sl w v C) (hx:ev env x=some v) (hm:C.length=m):
    (execOp a.eval ⟨dst,.call ⟨.builtin .len,#[x],#[t]⟩,ty,pos,af,g⟩).run P w=.ok (.value (en m)) w:=by
  obtain⟨b,cap,hv,-⟩:=hs;subst hm;simp[execOp,resolve,ha.ev hx,invoke,builtin,Builtin.len_,hT,hv,goInt]
theorem r_lenB (ha:Has n env a) {e b m c:Nat} (hT:∀ w,(underlying t).run P w=.ok (.slice e) w) (hx:ev env x=some (.slice (some ⟨b,0,none⟩) m c)):
    (execOp a.eval ⟨dst,.call ⟨.builtin .len,#[x],#[t]⟩,ty,pos,af,g⟩).run P w=.ok (.value (en m)) w:=by
  simp[execOp,resolve,ha.ev hx,invoke,builtin,Builtin.len_,hT,goInt]

theorem r_indexS (ha:Has n env a) {e i:Nat} {C:List Value} (hT:∀ w,(underlying t).run P w=.ok (.slice e) w) (hsz:∀ w,(sizeOf e).run P w=.ok 1 w) (hs:Sl w v C) (hx:ev env x=some v) (hy:ev env y=some (en i)) (hi:i<C.length):
    (execOp a.eval ⟨dst,.indexAddr t x y,ty,pos,af,g⟩).run P w=.ok (.value (ptrOf v i)) w:=by
  obtain⟨b,cap,hv,hc,hb,hn⟩:=hs
  cases b with
  | none=>have:=(hn rfl).1;rw[this] at hi;simp at hi
  | some q=>
    obtain⟨h1,h2,h3⟩:=hb q rfl;obtain⟨qb,qo,qs⟩:=q;simp only at h1;subst h1;have h4:(0:Int)≤(i:Int)∧(i:Int)<(C.length:Int):=⟨by omega,by omega⟩;simp[execOp,ha.ev hx,ha.ev hy,Instr.indexAt,asIntOf,hT,hsz,hv,h4,hi,ptrOf,add_zero']
theorem r_indexB (ha:Has n env a) {e b m c:Nat} (i:Nat) (hT:∀ w,(underlying t).run P w=.ok (.slice e) w) (hsz:∀ w,(sizeOf e).run P w=.ok 1 w) (hx:ev env x=some (.slice (some ⟨b,0,none⟩) m c)) (hy:ev env y=some (en i)) (hi:i<m):
    (execOp a.eval ⟨dst,.indexAddr t x y,ty,pos,af,g⟩).run P w=.ok (.value (.pointer (some ⟨b,i,none⟩))) w:=by
  have h4:(0:Int)≤(i:Int)∧(i:Int)<(m:Int):=⟨by omega,by omega⟩;simp[execOp,ha.ev hx,ha.ev hy,Instr.indexAt,asIntOf,hT,hsz,h4,hi,add_zero']
theorem r_loadS (ha:Has n env a) {i:Nat} {C:List Value} {u:Value} (hx:ev env x=some (ptrOf v i)) (hagg:∀ w,(isAgg t).run P w=.ok false w) (hs:Sl w v C) (hc:C[i]?=some u):
    (execOp a.eval ⟨dst,.load t x,ty,pos,af,g⟩).run P w=.ok (.value u) w:=by
  obtain⟨b,cap,hv,hcap,hb,hn⟩:=hs
  cases b with
  | none=>have:=(hn rfl).1;rw[this] at hc;simp at hc
  | some q=>
    obtain⟨h1,h2,h3⟩:=hb q rfl;have hp:ptrOf v i=.pointer (some ⟨q.block,q.off+i,none⟩):=by rw[hv];rfl
    rw[hp] at hx;exact r_load ha hx hagg (h3 i u hc)
end
end Go.Rx

/- The operations of the calculus: make, literals, copy, append, parts of slices, strings. -/
namespace Go.Rx
open Go.RowKit

section
variable {P:Program} {n:Nat} {env:Env} {a:Act} {w w':World} {dst:Option Tmp} {ty:TypeId} {pos:String} {af:Array Edge} {g:Option (Nat × Bool)} {x y z:Operand} {t t':TypeId} {v u:Value}
variable {ops:Array Oper} {Q:Exit→Act→World→Prop} {rest:List Oper} {d:Nat} {S:World→Prop} {m i:Nat} {st r:List Nat}

theorem made_one (z:Value) (k:Nat) (hz:z.cells= #[z]):madeCells z.cells k=((List.replicate k z)).toArray:=by
  rw[hz];unfold madeCells;apply Array.ext
  · simp
  · intro i h1 h2;simp[Nat.mod_one]

/-- make([]T, k) of one-cell elements. -/
theorem smake (ha:Has n env a) {e k:Nat} {ti:TypeInfo} {z:Value} (hx:ev env x=some (en k)) (hy:ev env y=some (en k)) (ht:P.underlying t=some (.slice e)) (hi:P.info? e=some ti) (hz:ti.zero=some z) (hsz:ti.size=1) (hzc:z.cells= #[z]) (hk:ti.bytes*k≤281474976710656) (hk2:k≤9223372036854775807) (hn:Nat.blt d n=true)
    (K:∀ a' w' b,Has n ((d,.slice (some ⟨b,0,none⟩) k k)::env) a'→w.grownBy w' none→w'.heap[b]?=some (.cells (List.replicate k z).toArray e (0,0))→w.heap.size≤b→b<w'.heap.size→wpList P ops Q rest a' w'):
    wpList P ops Q (⟨some d,.makeSlice t x y,ty,pos,af,none⟩::rest) a w:=by
  have hr:=run_make (P:=P) w t e ti z ht hi hz .i64 .i64 k k (by omega) (Int.le_refl _) (by rw[← Int.natCast_mul];omega) (by omega);rw[hsz,Nat.mul_one,Int.toNat_natCast,made_one z k hzc] at hr;have hrun:(execOp a.eval ⟨some d,.makeSlice t x y,ty,pos,af,none⟩).run P w=.ok (.value (.slice (some ⟨w.heap.size,0,none⟩) k k)) (w.alloc (.cells (List.replicate k z).toArray e)):=by
    simp only[execOp,ha.ev hx,ha.ev hy,Sem.run_bind,hr,Result.andThen_ok];rfl
  exact sv ha hrun rfl rfl hn fun _ ha'=>K _ _ _ ha' (grown_alloc w _) (heap_alloc_new w _) (Nat.le_refl _) (by simp)

/-- A literal of a slice, all elements given, one cell each. -/
theorem run_buildSlice {e k:Nat} {parts:Array (Nat × Value)} {C:List Value} (hT:∀ w,(underlying t).run P w=.ok (.slice e) w) (hsz:∀ w,(sizeOf e).run P w=.ok 1 w) {z:Value} (hz:∀ w,(zeroValue e).run P w=.ok z w) (hzc:z.cells= #[z]) (hk0:0<k) (hk:k≤16777216)
    (hf:Instr.fill (fun i=>some (i*1,1)) (List.replicate k z).toArray parts.toList=some C.toArray):
    (Instr.buildSlice t k parts).run P w=.ok (.slice (some ⟨w.heap.size,0,none⟩) k k) (w.alloc (.cells C.toArray e)):=by
  have hm:(Array.range (k*1)).map (z.cells[· % z.cells.size]!)=(List.replicate k z).toArray:=by
    have:=made_one z k hzc;unfold madeCells at this;rw[Nat.mul_one];exact this
  have h0:¬k*1=0:=by omega
  have hk':¬(2 ^ 24<k):=by omega
  · simp only[Instr.buildSlice,Sem.run_bind,hT,hsz,Result.andThen_ok]
    simp only[Nat.mul_one] at hm h0;simp[hk',h0,hz,hm,newRow,newObj];have hf':Instr.fill (fun i=>some (i,1)) (List.replicate k z).toArray parts.toList=some C.toArray:=by simpa using hf
    simp at hf';simp[hf']
    rfl

def evp (env:Env):List (Nat × Operand)→Option (List (Nat × Value))
  | []=>some []
  | (i,x)::r=>match ev env x,evp env r with
    | some v,some l=>some ((i,v)::l)
    | _,_=>none
theorem Has.evp (ha:Has n env a):∀ (l:List (Nat × Operand)) (vs:List (Nat × Value)),Rx.evp env l=some vs→l.map (fun p=>(p.1,a.eval p.2))=vs
  | [],vs,h=>by simp[Rx.evp] at h;subst h;rfl
  | (i,x)::r,vs,h=>by
    simp only[Rx.evp] at h
    split at h
    · rename_i v l hv hl
      simp only[Option.some.injEq] at h;subst h;rw[List.map_cons,ha.ev hv,Has.evp ha r l hl]
    · cases h

theorem sbuildS (ha:Has n env a) {e k:Nat} {parts:List (Nat × Operand)} (vs:List (Nat × Value)) (C:List Value) (hp:evp env parts=some vs) (hT:∀ w,(underlying t).run P w=.ok (.slice e) w) (hsz:∀ w,(sizeOf e).run P w=.ok 1 w) {z:Value} (hz:∀ w,(zeroValue e).run P w=.ok z w) (hzc:z.cells= #[z]) (hk0:Nat.blt 0 k=true) (hk:Nat.ble k 16777216=true)
    (hf:Instr.fill (fun i=>some (i*1,1)) (List.replicate k z).toArray vs=some C.toArray) (hn:Nat.blt d n=true)
    (K:∀ a' w' b,Has n ((d,.slice (some ⟨b,0,none⟩) k k)::env) a'→w.grownBy w' none→w'.heap[b]?=some (.cells C.toArray e (0,0))→w.heap.size≤b→b<w'.heap.size→wpList P ops Q rest a' w'):
    wpList P ops Q (⟨some d,.buildSlice t k parts.toArray,ty,pos,af,none⟩::rest) a w:=by
  have h:=ha.evp parts vs hp;have hr:=run_buildSlice (P:=P) (w:=w) (parts:=vs.toArray) (C:=C) hT hsz hz hzc (by simpa[Nat.blt_eq] using hk0) (by simpa[Nat.ble_eq] using hk) (by simpa using hf);have hrun:(execOp a.eval ⟨some d,.buildSlice t k parts.toArray,ty,pos,af,none⟩).run P w=.ok (.value (.slice (some ⟨w.heap.size,0,none⟩) k k)) (w.alloc (.cells C.toArray e)):=by
    have hm:(parts.toArray.map fun p=>(p.1,a.eval p.2))=vs.toArray:=by rw[List.map_toArray,h]
    simp only[execOp,hm,Sem.run_bind,hr,Result.andThen_ok];rfl
  exact sv ha hrun rfl rfl hn fun _ ha'=>K _ _ _ ha' (grown_alloc w _) (heap_alloc_new w _) (Nat.le_refl _) (by simp)

/-- An array literal without a part: noughts. -/
theorem r_build0 {C:List Value} {len e:Nat} (hz:∀ w,(zeroValue t).run P w=.ok (.agg C.toArray) w) (hT:∀ w,(underlying t).run P w=.ok (.array len e) w) {sz:Nat} (hsz:∀ w,(sizeOf e).run P w=.ok sz w):
    (execOp a.eval ⟨dst,.build t #[],ty,pos,af,g⟩).run P w=.ok (.value (.agg C.toArray)) w:=by
  simp[execOp,Instr.build,hz,hT,hsz,Instr.fill,Value.cells]

/-- copy of a slice over a block of one's own. -/
theorem scopy (ha:Has n env a) {e b k c bt o:Nat} {D C:List Value} {p:List Value} (hx:ev env x=some (.slice (some ⟨b,o,none⟩) k c)) (hy:ev env y=some v) (hs:Sl w v C) (ht:P.underlying t=some (.slice e)) (hsz:(P.info? e).map (·.size)=some 1)
    (hb:w.heap[b]?=some (.cells D.toArray bt (0,0))) (hp:C.take k=p) (hfit:o+p.length≤D.length) (h1:∀ u ∈ C,u.oneCell'=true)
    (K:∀ a' w',Has n env a'→w.grownBy w' (some b)→w'.heap[b]?=some (.cells (D.take o++p++D.drop (o+p.length)).toArray bt (0,0))→wpList P ops Q rest a' w') {dst:Option Nat} (hd:dst=some d) (hn:Nat.blt d n=true) (hfresh:look env d=none):
    wpList P ops Q (⟨dst,.call ⟨.builtin .copy,#[x,y],#[t,t']⟩,ty,pos,af,none⟩::rest) a w:=by
  subst hp;obtain⟨sa,cap,hv,hc,hx',hnil⟩:=hs;have weaken:∀ (v0:Value) a',Has n ((d,v0)::env) a'→Has n env a':=fun v0 a' h=>⟨h.defers,h.size,fun t u hu=>h.has t u (by
    simp only[look];by_cases e:d=t
    · subst e;rw[hfresh] at hu;cases hu
    · rw[beq_no e];exact hu)⟩
  by_cases h0:(C.take k).length=0
  · have hnil':C.take k=[]:=List.eq_nil_of_length_eq_zero h0
    have hmin:Nat.min C.length k=0:=by rw[List.length_take] at h0;show min C.length k=0;omega
    have hr:=run_copy_none (P:=P) w t t' ty e (some ⟨b,o,none⟩) sa k c C.length cap ht hsz hmin;have hrun:(execOp a.eval ⟨dst,.call ⟨.builtin .copy,#[x,y],#[t,t']⟩,ty,pos,af,none⟩).run P w=.ok (.value (goInt 0)) w:=by
      simp[execOp,resolve,ha.ev hx,ha.ev hy,hv,invoke,builtin,hr]
    refine sv ha hrun rfl hd hn fun a' ha'=>K a' w (weaken _ _ ha') ⟨rfl,rfl,rfl,Nat.le_refl _,fun _ _ _=>rfl⟩ ?_;simpa[hnil'] using hb
  · have hsome:∃ q,sa=some q:=by
      cases sa with
      | none=>have:=(hnil rfl).1;rw[this] at h0;simp at h0
      | some q=>exact⟨q,rfl⟩
    obtain⟨q,rfl⟩:=hsome;obtain⟨h2,h3,h4⟩:=hx' q rfl;have hq:q=⟨q.block,q.off,none⟩:=by cases q;simp only at h2;subst h2;rfl
    have hr:=run_copy_row (P:=P) w t t' ty e b o k c q C.length cap D.toArray bt (C.take k) ht hsz hb (by rw[List.length_take];show min k C.length=min C.length k;omega) (fun j u hu=>by
      rw[hq,add_zero'];rw[List.getElem?_take] at hu
      split at hu
      · exact h4 j u hu
      · cases hu) (by simpa using hfit) (fun u hu=>h1 u (List.mem_of_mem_take hu))
    have hrun:(execOp a.eval ⟨dst,.call ⟨.builtin .copy,#[x,y],#[t,t']⟩,ty,pos,af,none⟩).run P w=.ok (.value (goInt (C.take k).length)) (w.setRow b (D.take o++C.take k++D.drop (o+(C.take k).length)).toArray):=by
      simp only[execOp,resolve,ha.ev hx,ha.ev hy,hv,invoke,builtin,Sem.run_bind,Sem.run_pure,Result.andThen_ok,List.map_toArray,List.map_cons,List.map_nil,hr]
    exact sv ha hrun rfl hd hn fun a' ha'=>K a' _ (weaken _ _ ha') (grown_setRow w b _) (setRow_new hb)
end

section
variable {P:Program} {n:Nat} {env:Env} {a:Act} {w0 w w':World} {dst:Option Tmp} {ty:TypeId} {pos:String} {af:Array Edge} {g:Option (Nat × Bool)} {x y z:Operand} {t t':TypeId} {v u:Value}

/-- 'x[:]' of an array variable. -/
theorem r_sliceA (ha:Has n env a) {len e b:Nat} (hT:∀ w,(underlying t).run P w=.ok (.array len e) w) (hsz:∀ w,(sizeOf e).run P w=.ok 1 w) (hx:ev env x=some (.pointer (some ⟨b,0,none⟩))):
    (execOp a.eval ⟨dst,.slice t x none none none,ty,pos,af,g⟩).run P w=.ok (.value (.slice (some ⟨b,0,none⟩) len len)) w:=by
  simp[execOp,ha.ev hx,Instr.sliceAt,hT,hsz,Instr.sureAddr,Instr.sliceBounds,add_zero']

theorem copy_map {α:Type} {f:α→Value} {D l:List α}:(D.map f).take 0++l.map f++(D.map f).drop (0+(l.map f).length)=(l++D.drop l.length).map f:=by
  simp

/- Where a call may write into one block that was there: the running fact is 'w0.grownBy w (some m)'. -/
end

/-! ### append -/
section
variable {P:Program} {n:Nat} {env:Env} {a:Act} {w0 w w':World} {dst:Option Tmp} {ty:TypeId} {pos:String} {af:Array Edge} {g:Option (Nat × Bool)} {x y z:Operand} {t t':TypeId} {v u:Value}
variable {ops:Array Oper} {Q:Exit→Act→World→Prop} {rest:List Oper} {d:Nat} {S:World→Prop} {m i:Nat} {st r:List Nat}

theorem zc_one {z:Value} {k:Nat} (hz:z.cells= #[z]):Builtin.zeroCells z.cells k=(List.replicate k z).toArray:=by
  rw[hz];unfold Builtin.zeroCells;apply Array.ext
  · simp
  · intro i h1 h2;simp[Nat.mod_one]

/-- What an append yields, of one-cell elements: the destination nil, or the head of a block of one's own; the source told by 'Sl'. -/
theorem run_app {e:Nat} {ti:TypeInfo} {zv:Value} {base k:Nat} {C D:List Value} (ht:P.underlying t=some (.slice e)) (hi:P.info? e=some ti) (hz:ti.zero=some zv) (hsz:ti.size=1) (hzc:zv.cells= #[zv])
    (hown:w.ownsRow base e 1 v k C) (hs:Sl w u D) (h1:∀ q ∈ D,q.oneCell'=true) (hbd:(k+D.length)*ti.bytes≤140737488355328) (hbd2:k+D.length≤140737488355328) (hbase:base≤w.heap.size):
    ∃ v' w',(Builtin.append_ #[t,t] ty #[v,u]).run P w=.ok v' w'∧w'.ownsRow base e 1 v' (k+D.length) (C++D)∧w.grownBy w' v.ownBlock∧(v'=.slice none 0 0→k+D.length=0)∧(∀ j,v'.ownBlock=some j→v.ownBlock=some j∨w.heap.size≤j):=by
  obtain⟨sa,cap,hu,hc,hx,hnil⟩:=hs
  cases sa with
  | none=>
    obtain⟨hD,hcap⟩:=hnil rfl;subst hD;subst hcap;have hr:=run_append_owned_none (P:=P) (w:=w) base t ty e ti 1 ht hi v k C hown;refine⟨v,w,by rw[hu];exact hr,by simpa using hown,⟨rfl,rfl,rfl,Nat.le_refl _,fun _ _ _=>rfl⟩,fun e=>?_,fun j hj=>.inl hj⟩;rcases hown.2 with⟨_,rfl⟩ | ⟨g,c,cur,hv,_⟩
    · rfl
    · rw[hv] at e;cases e
  | some q=>
    obtain⟨q1,q2,q3⟩:=hx q rfl;have hq:q=⟨q.block,q.off,none⟩:=by cases q;simp only at q1;subst q1;rfl
    have hnews:∀ j p,D[j]?=some p→w.cell? (q.add j)=some p:=fun j p hp=>by rw[hq,add_zero'];exact q3 j p hp
    have hl:D.length=D.length*ti.size:=by rw[hsz,Nat.mul_one]
    have hmx:k+D.length≤maxLen:=by unfold maxLen;omega
    rcases hown.2 with⟨hv,hk⟩ | ⟨g,c,cur,hv,hbg,hg,hkc,hcm,hcs,htake⟩
    · subst hv;subst hk
      have hC:C=[]:=List.eq_nil_of_length_eq_zero (by simpa using hown.1);subst hC;by_cases h0:D.length=0
      · have hD:D=[]:=List.eq_nil_of_length_eq_zero h0
        subst hD;obtain⟨v',w',hr,ho,hg,hn⟩:=run_append_own (P:=P) w base t ty e ti zv 1 ti.bytes ht hi hz hsz rfl (by rw[hzc];rfl) (by omega) _ _ _ hown q 0 cap [] (by simp) (fun j p hp=>by simp at hp) (fun p hp=>by simp at hp) (by simp[maxLen]) (by simp) hbase;have hv':v'=.slice none 0 0:=hn.2 ⟨rfl,rfl⟩;refine⟨v',w',by rw[hu];exact hr,ho,hg,fun _=>by simp,fun j hj=>?_⟩;rw[hv'] at hj;simp[Value.ownBlock] at hj
      · have hr:=run_append_nil (P:=P) w t ty e ti zv ht hi hz q D.length cap D hl hnews (by omega) (by omega) (by have:=hbd;simp only[Nat.zero_add] at this;omega)
        have hcl:grownCap w D.length 0 e≤maxLen:=grownCap_le_maxLen w _ _ e (by simpa using hmx);have hcg:=grownCap_ge w D.length 0 e;refine⟨_,_,by rw[hu];exact hr,⟨by simp,.inr ⟨w.heap.size,_,_,by simp,hbase,heap_alloc_new w.drew _,by simpa using hcg,hcl,?_,?_⟩⟩,⟨rfl,rfl,rfl,by simp,fun j hj _=>heap_alloc_old w.drew _ hj⟩,fun e=>(by cases e),fun j hj=>?_⟩
        · rw[zc_one hzc];simp;omega
        · simp
        · simp[Value.ownBlock] at hj;exact .inr (by omega)
    · subst hv
      by_cases hroom:k+D.length≤c
      · have hr:=run_append_room (P:=P) w t ty e ti ht hi g k c cur hg q D.length cap D hl hnews h1 hroom (by rw[hsz,Nat.mul_one];omega)
        rw[hsz,Nat.mul_one] at hr;refine⟨_,_,by rw[hu];exact hr,⟨by simp[hown.1],.inr ⟨g,c,_,rfl,hbg,setRow_heap w g cur _ e _ hg,hroom,hcm,?_,?_⟩⟩,⟨rfl,rfl,rfl,by simp,fun j _ hj=>setRow_other w g j _ (fun e=>hj (by simp[Value.ownBlock,e]))⟩,fun e=>(by cases e),fun j hj=>Or.inl hj⟩
        · simp;omega
        · have hkl:C.length=k:=by have:=hown.1;omega
          rw[Nat.mul_one] at htake;simp only[Nat.mul_one,htake];rw[← hkl,← lA];exact List.take_left
      · have hr:=run_append_grow (P:=P) w t ty e ti zv ht hi hz ⟨g,0,none⟩ k c C (by rw[hsz];exact hown.1) (hown.cells (g:=g) rfl) q D.length cap D hl hnews (by omega) (by omega) (growslice_fits (by omega) hbd)
        have hcl:grownCap w (k+D.length) c e≤maxLen:=grownCap_le_maxLen w _ _ e hmx;have hcg:=grownCap_ge w (k+D.length) c e;have hkl:C.length=k:=by have:=hown.1;omega
        refine⟨_,_,by rw[hu];exact hr,⟨by simp[hown.1],.inr ⟨w.heap.size,_,_,rfl,hbase,heap_alloc_new w.drew _,hcg,hcl,?_,?_⟩⟩,⟨rfl,rfl,rfl,by simp,fun j hj _=>heap_alloc_old w.drew _ hj⟩,fun e=>(by cases e),fun j hj=>?_⟩
        · rw[zc_one hzc];simp[hkl];omega
        · simp only[Array.toList_append,Nat.mul_one,List.append_assoc]
          rw[← List.append_assoc,← hkl,← lA];exact List.take_left
        · simp[Value.ownBlock] at hj;exact .inr (by omega)

theorem r_app (ha:Has n env a) {e:Nat} {ti:TypeInfo} {zv:Value} {base k:Nat} {C D:List Value} (hx:ev env x=some v) (hy:ev env y=some u) (ht:P.underlying t=some (.slice e)) (hi:P.info? e=some ti) (hz:ti.zero=some zv) (hsz:ti.size=1) (hzc:zv.cells= #[zv])
    (hown:w.ownsRow base e 1 v k C) (hs:Sl w u D) (h1:∀ q ∈ D,q.oneCell'=true) (hbd:(k+D.length)*ti.bytes≤140737488355328) (hbd2:k+D.length≤140737488355328) (hbase:base≤w.heap.size):
    ∃ v' w',(execOp a.eval ⟨dst,.call ⟨.builtin .append,#[x,y],#[t,t]⟩,ty,pos,af,g⟩).run P w=.ok (.value v') w'∧w'.ownsRow base e 1 v' (k+D.length) (C++D)∧w.grownBy w' v.ownBlock∧(v'=.slice none 0 0→k+D.length=0)∧(∀ j,v'.ownBlock=some j→v.ownBlock=some j∨w.heap.size≤j):=by
  obtain⟨v',w',hr,rest⟩:=run_app (P:=P) (w:=w) (ty:=ty) ht hi hz hsz hzc hown hs h1 hbd hbd2 hbase;refine⟨v',w',?_,rest⟩;simp only[execOp,resolve,ha.ev hx,ha.ev hy,invoke,builtin,Sem.run_bind,Sem.run_pure,Result.andThen_ok,List.map_toArray,List.map_cons,List.map_nil,hr]

/-- append, in the walk: the destination owned. -/
theorem sapp (ha:Has n env a) {e:Nat} {ti:TypeInfo} {zv:Value} {base k:Nat} {C D:List Value} (hx:ev env x=some v) (hy:ev env y=some u) (ht:P.underlying t=some (.slice e)) (hi:P.info? e=some ti) (hz:ti.zero=some zv) (hsz:ti.size=1) (hzc:zv.cells= #[zv])
    (hown:w.ownsRow base e 1 v k C) (hs:Sl w u D) (h1:∀ q ∈ D,q.oneCell'=true) (hbd:(k+D.length)*ti.bytes≤140737488355328) (hbd2:k+D.length≤140737488355328) (hbase:base≤w.heap.size) (hn:Nat.blt d n=true)
    (K:∀ a' w' v',Has n ((d,v')::env) a'→w.grownBy w' v.ownBlock→w'.ownsRow base e 1 v' (k+D.length) (C++D)→(v'=.slice none 0 0→k+D.length=0)→(∀ j,v'.ownBlock=some j→v.ownBlock=some j∨w.heap.size≤j)→wpList P ops Q rest a' w'):
    wpList P ops Q (⟨some d,.call ⟨.builtin .append,#[x,y],#[t,t]⟩,ty,pos,af,none⟩::rest) a w:=by
  obtain⟨v',w',hr,ho,hg,hnl,hj⟩:=r_app (P:=P) (w:=w) (ty:=ty) (pos:=pos) (af:=af) (dst:=some d) (g:=none) ha hx hy ht hi hz hsz hzc hown hs h1 hbd hbd2 hbase;exact sv ha hr rfl rfl hn fun a' ha'=>K a' w' v' ha' hg ho hnl hj

theorem Sl.ofOwns {base e k:Nat} {C:List Value} (h:w.ownsRow base e 1 v k C):Sl w v C:=by
  have hCk:C.length=k:=by have:=h.1;omega
  rcases h.2 with⟨hv,hk⟩ | ⟨g,c,cur,hv,hbg,hg,hkc,hcm,hcs,htake⟩
  · have:C=[]:=List.eq_nil_of_length_eq_zero (by omega)
    subst this;rw[hv];exact Sl.nil w
  · subst hv;subst hCk
    exact Sl.ofBlock (D:=cur.toList) (fr:=(0,0)) (t:=e) (by simpa using hg) (by simpa using htake) hkc
/- carrying an owned slice on -/
theorem keepW0 {base e k:Nat} {C:List Value} (hg:w.grownBy w' none) (h:w.ownsRow base e 1 v k C):w'.ownsRow base e 1 v k C:=h.kept hg (by cases v.ownBlock <;> simp)
/- where the block that was written is an owned slice's -/
theorem keepBR {row:Option Nat} (hg:w.grownBy w' row) (hr:∀ j,row=some j→w0.heap.size≤j) (h:Below w0.heap.size w0 w):Below w0.heap.size w0 w':=h.grown hg h.size hr
theorem keepOR {row:Option Nat} {c:Nat} {o:Obj} (hg:w.grownBy w' row) (hne:row≠some c) (h:w.heap[c]?=some o):w'.heap[c]?=some o:=by
  rw[hg.block c (Array.getElem?_eq_some_iff.1 h).1 (fun e=>hne e.symm)];exact h
end

/-! ### Parts of slices -/
def rsl (v:Value) (lo hi:Nat):Value:=
  match v with
  | .slice a _ cap=>.slice (if cap=lo then a else a.map (·.add lo)) (hi - lo) (cap - lo)
  | x=>x
def optn (env:Env) (o:Option Operand) (dflt k:Nat):Prop:=
  match o with
  | none=>k=dflt
  | some x=>ev env x=some (en k)

section
variable {P:Program} {n:Nat} {env:Env} {a:Act} {w0 w w':World} {dst:Option Tmp} {ty:TypeId} {pos:String} {af:Array Edge} {g:Option (Nat × Bool)} {x y z:Operand} {t t':TypeId} {v u:Value}

theorem run_bounds (ha:Has n env a) {ol oh:Option Operand} {len cap lo hi:Nat} (hlo:optn env ol 0 lo) (hhi:optn env oh len hi) (h1:lo≤hi) (h2:hi≤cap):
    (Instr.sliceBounds true len cap (ol.map a.eval) (oh.map a.eval) none).run P w=.ok (lo,hi,cap) w:=by
  cases ol with
  | none=>
    simp only[optn] at hlo;subst hlo
    cases oh with
    | none=>simp only[optn] at hhi;subst hhi;simp[Instr.sliceBounds]
    | some q=>
      simp only[optn] at hhi;have e:(0:Int)≤(hi:Int)∧(hi:Int)≤(cap:Int):=⟨by omega,by omega⟩;simp[Instr.sliceBounds,ha.ev hhi,Instr.sliceBound,asIntOf,h2]
  | some p=>
    simp only[optn] at hlo
    cases oh with
    | none=>
      simp only[optn] at hhi;subst hhi;simp[Instr.sliceBounds,ha.ev hlo,Instr.sliceBound,asIntOf,h1]
    | some q=>
      simp only[optn] at hhi;simp[Instr.sliceBounds,ha.ev hlo,ha.ev hhi,Instr.sliceBound,asIntOf,h1,h2]
theorem r_resl (ha:Has n env a) {ol oh:Option Operand} {e:Nat} {C:List Value} (lo hi:Nat) (hT:∀ w,(underlying t).run P w=.ok (.slice e) w) (hsz:∀ w,(sizeOf e).run P w=.ok 1 w) (hs:Sl w v C) (hx:ev env x=some v) (hlo:optn env ol 0 lo) (hhi:optn env oh C.length hi) (h1:lo≤hi) (h2:hi≤C.length):
    (execOp a.eval ⟨dst,.slice t x ol oh none,ty,pos,af,g⟩).run P w=.ok (.value (rsl v lo hi)) w:=by
  obtain⟨b,cap,hv,hc,-⟩:=hs;have hb:=run_bounds (P:=P) (w:=w) (len:=C.length) (cap:=cap) ha hlo hhi h1 (by omega);simp only[execOp,ha.ev hx,hv,Instr.sliceAt,Instr.slice,hT,hsz,Sem.run_bind,Result.andThen_ok,hb,Nat.mul_one,Option.map_none,rsl];simp
theorem Sl.cut {C:List Value} (h:Sl w v C) {lo hi:Nat} (h1:lo≤hi) (h2:hi≤C.length):Sl w (rsl v lo hi) ((C.drop lo).take (hi - lo)):=by
  obtain⟨b,cap,hv,hc,hx,hn⟩:=h;have hlen:((C.drop lo).take (hi - lo)).length=hi - lo:=by simp;omega
  subst hv;refine⟨_,cap - lo,by rw[hlen];rfl,by omega,fun q hq=>?_,fun e=>?_⟩
  · by_cases hcl:cap=lo
    · rw[if_pos hcl] at hq
      obtain⟨q1,q2,q3⟩:=hx q hq;refine⟨q1,q2,fun j u hu=>?_⟩;have:hi - lo=0:=by omega
      rw[this] at hu;simp at hu
    · rw[if_neg hcl] at hq
      cases b with
      | none=>simp at hq
      | some p=>
        obtain⟨q1,q2,q3⟩:=hx p rfl;simp only[Option.map_some,Option.some.injEq] at hq;have hp:p=⟨p.block,p.off,none⟩:=by cases p;simp only at q1;subst q1;rfl
        rw[hp,add_zero'] at hq;subst hq;refine⟨rfl,q2,fun j u hu=>?_⟩;rw[List.getElem?_take] at hu
        split at hu
        · rw[List.getElem?_drop] at hu
          have:=q3 (lo+j) u hu;simpa[Nat.add_assoc] using this
        · cases hu
  · cases b with
    | none=>obtain⟨hC,hcap⟩:=hn rfl;subst hC;simp[hcap]
    | some p=>split at e <;> simp at e
theorem Sl.cutM {α:Type} {f:α→Value} {l:List α} (h:Sl w v (l.map f)) {lo hi:Nat} (h1:lo≤hi) (h2:hi≤l.length):Sl w (rsl v lo hi) (((l.drop lo).take (hi - lo)).map f):=by
  have:=h.cut h1 (by simpa using h2)
  rwa [← List.map_drop,← List.map_take] at this
theorem own_rsl (lo hi:Nat):∀ j,(rsl v lo hi).ownBlock=some j→v.ownBlock=some j:=by
  intro j hj;unfold rsl at hj
  cases v <;> try exact hj
  rename_i b k cap;simp only at hj
  split at hj
  · cases b with
    | none=>simp[Value.ownBlock] at hj
    | some p=>simpa[Value.ownBlock] using hj
  · cases b with
    | none=>simp[Value.ownBlock] at hj
    | some p=>simp[Value.ownBlock,Addr.add] at hj ⊢;split at hj <;> simpa using hj
end
end Go.Rx

/- More operations: array literals with parts, comparison of truths. -/
namespace Go.Rx
open Go.RowKit Go.Instr

/-- What a package-level variable's block holds. -/
def GlobAt (w:World) (g:Nat) (C:List Value):Prop:=∃ t f,w.heap[g]?=some (.cells C.toArray t f)
theorem cell_glob {w:World} {g o:Nat} {C:List Value} {v:Value} (h:GlobAt w g C) (hc:C[o]?=some v):w.cell? ⟨g,o,none⟩=some v:=by
  obtain⟨t,f,h⟩:=h;exact cell_of h hc
theorem GlobAt.keep {w0 w:World} {g:Nat} {C:List Value} (h:GlobAt w0 g C) (hb:Below w0.heap.size w0 w):GlobAt w g C:=by
  obtain⟨t,f,h⟩:=h;exact⟨t,f,by rw[hb.block _ (lt_of_block h)];exact h⟩

section
variable {P:Program} {n:Nat} {env:Env} {a:Act} {w w':World} {dst:Option Tmp} {ty:TypeId} {pos:String} {af:Array Edge} {g:Option (Nat × Bool)} {x y z:Operand} {t t':TypeId} {v:Value}

end
end Go.Rx

/- Still more operations: signs as masks, u64 told by numbers, an array value's element. -/
namespace Go.Rx
open Go.RowKit Go.Instr

section
variable {P:Program} {n:Nat} {env:Env} {a:Act} {w w':World} {dst:Option Tmp} {ty:TypeId} {pos:String} {af:Array Edge} {g:Option (Nat × Bool)} {x y z:Operand} {t t':TypeId} {v:Value}

theorem r_index (ha:Has n env a) {C:List Value} {k:IntKind} (i:Nat) {len e:Nat} (hx:ev env x=some (.agg C.toArray)) (hy:ev env y=some (.int k i)) (hT:∀ w,(underlying t).run P w=.ok (.array len e) w) (hsz:∀ w,(sizeOf e).run P w=.ok 1 w) (hag:∀ w,(isAgg e).run P w=.ok false w)
    (hi:i<len) (hv:C[i]?=some v):
    (execOp a.eval ⟨dst,.index t x y,ty,pos,af,g⟩).run P w=.ok (.value v) w:=by
  simp[execOp,ha.ev hx,ha.ev hy,Instr.index,asIntOf,hT,hsz,part,hag,hi,hv]
end
end Go.Rx

/- Several operations that yield values, at once. -/
namespace Go.Rx
open Go.RowKit
def vk (n:Nat):List Oper→Option (List Nat)
  | []=>some []
  | o::l=>match o.guard,o.dst with
    | none,some d=>bif Nat.blt d n then(match vk n l with | some r=>some (d::r) | none=>none) else none
    | _,_=>none
theorem vk_cons {n:Nat} {o:Oper} {l:List Oper} {d:Nat} {r:List Nat} (h:vk n (o::l)=some (d::r)):o.guard=none∧o.dst=some d∧Nat.blt d n=true∧vk n l=some r:=by
  unfold vk at h
  split at h
  · rename_i e hg hd
    cases hb:Nat.blt e n with
    | false=>rw[hb] at h;cases h
    | true=>
      rw[hb] at h
      cases hv:vk n l with
      | none=>rw[hv] at h;cases h
      | some q=>rw[hv] at h;cases h;exact⟨hg,hd,hb,rfl⟩
  · cases h
def vc (ops:Array Oper) (st:List Nat) (n:Nat):List Nat→Option (List (Oper × Nat))
  | []=>some []
  | i::l=>match ops[i]? with
    | none=>none
    | some o=>match o.guard,o.dst with
      | none,some d=>bif st.contains i && Nat.blt d n then(match vc ops st n l with | some r=>some ((o,d)::r) | none=>none) else none
      | _,_=>none
theorem vc_cons {ops:Array Oper} {st:List Nat} {n i:Nat} {l:List Nat} {o:Oper} {d:Nat} {r:List (Oper × Nat)} (h:vc ops st n (i::l)=some ((o,d)::r)):ops[i]?=some o∧st.contains i=true∧o.guard=none∧o.dst=some d∧Nat.blt d n=true∧vc ops st n l=some r:=by
  unfold vc at h
  split at h
  · cases h
  · rename_i p hp
    split at h
    · rename_i e hg hd
      cases hb:(st.contains i && Nat.blt e n) with
      | false=>rw[hb] at h;cases h
      | true=>
        rw[hb] at h
        cases hv:vc ops st n l with
        | none=>rw[hv] at h;cases h
        | some q=>
          rw[hv] at h;cases h;rw[Bool.and_eq_true] at hb;exact⟨hp,hb.1,hg,hd,hb.2,rfl⟩
    · cases h
section
variable {P:Program} {n:Nat} {env:Env} {w:World} {dst:Option Tmp} {ty:TypeId} {pos:String} {af:Array Edge} {g:Option (Nat × Bool)} {x:Operand} {v:Value} {S:World→Prop}
theorem mv (hx:ev env x=some v):∀ a,Has n env a→(execOp a.eval ⟨dst,.move x,ty,pos,af,g⟩).run P w=.ok (.value v) w:=fun _ ha=>r_move ha hx
theorem av (hx:ev env x=some v):∀ a,Has n env a→(execOp a.eval ⟨dst,.assign x,ty,pos,af,g⟩).run P w=.ok (.value v) w:=fun _ ha=>r_assign ha hx
theorem cmv (hx:ev env x=some v):∀ w,S w→∀ a,Has n env a→(execOp a.eval ⟨dst,.move x,ty,pos,af,g⟩).run P w=.ok (.value v) w:=fun _ _ _ ha=>r_move ha hx
theorem cav (hx:ev env x=some v):∀ w,S w→∀ a,Has n env a→(execOp a.eval ⟨dst,.assign x,ty,pos,af,g⟩).run P w=.ok (.value v) w:=fun _ _ _ ha=>r_assign ha hx
theorem bl {w:World} {b c:Nat} {u:Obj} (h:w.heap[b]?=some u) (hc:w.heap.size≤c):b<c:=Nat.lt_of_lt_of_le (lt_of_block h) hc
theorem nbn {w:World} {b:Nat} {u:Obj} {s:Value} (hd:∀ j,s.ownBlock=some j→w.heap.size≤j) (h:w.heap[b]?=some u):∀ j,s.ownBlock=some j→j≠b:=fun j hj=>by
  have h1:=hd j hj;have h2:=lt_of_block h;omega
theorem nds {w:World} {s t:Value} (hd:∀ j,s.ownBlock=some j→w.heap.size≤j) (h:∀ j,t.ownBlock=some j→j<w.heap.size):∀ j,s.ownBlock=some j→t.ownBlock≠some j:=fun j h1 h2=>by
  have h3:=hd j h1;have h4:=h j h2;omega
theorem qr {Q:Exit→Act→World→Prop} {a:Act} {id:Nat} {l:List Oper} {c:Code} (h:∀ K:Act→World→Prop,(∀ a w,c.wp P Q a w→K a w)→wpList P l.toArray (Exit.then K Q) l a w):(Code.seq (.region id l.toArray false) c).wp P Q a w:=
  wp_seq_k fun K hK=>region (h K hK)
end
section
variable {P:Program} {ops:Array Oper} {Q:Exit→Act→World→Prop} {a:Act} {w:World} {rest:List Oper} {n:Nat} {env:Env}
theorem scp {o:Oper} {d:Nat} {f:FuncId} {args:Array Value} {v:Value} (ha:Has n env a) (hrun:(execOp a.eval o).run P w=.ok (.enter f args) w) (hg:o.guard=none) (hd:o.dst=some d) (hn:Nat.blt d n=true)
    (hc:Calls P f args w (fun e w'=>e=.returned v∧Below w.heap.size w w')) (k:∀ w',w.grownBy w' none→∀ a',Has n ((d,v)::env) a'→wpList P ops Q rest a' w'):wpList P ops Q (o::rest) a w:=
  sc ha hrun hg hd hn hc fun _ w' ⟨he,hB⟩=>⟨v,he,fun _ ha=>k w' (grown_call hB) _ ha⟩
theorem s1 {o1:Oper} {d1:Nat} {v1:Value} (ha:Has n env a) (hk:vk n [o1]=some [d1]) (r1:∀ a,Has n env a→(execOp a.eval o1).run P w=.ok (.value v1) w) (k:∀ a',Has n ((d1,v1)::env) a'→wpList P ops Q rest a' w):wpList P ops Q (o1::rest) a w:=by
  obtain⟨g1,e1,b1,hk⟩:=vk_cons hk;exact sv ha (r1 _ ha) g1 e1 b1 fun a ha=>k _ ha
theorem s2 {o1 o2:Oper} {d1 d2:Nat} {v1 v2:Value} (ha:Has n env a) (hk:vk n [o1,o2]=some [d1,d2]) (r1:∀ a,Has n env a→(execOp a.eval o1).run P w=.ok (.value v1) w) (r2:∀ a,Has n ((d1,v1)::env) a→(execOp a.eval o2).run P w=.ok (.value v2) w) (k:∀ a',Has n ((d2,v2)::((d1,v1)::env)) a'→wpList P ops Q rest a' w):wpList P ops Q (o1::o2::rest) a w:=by
  obtain⟨g1,e1,b1,hk⟩:=vk_cons hk;obtain⟨g2,e2,b2,hk⟩:=vk_cons hk;exact sv ha (r1 _ ha) g1 e1 b1 fun a ha=>sv ha (r2 _ ha) g2 e2 b2 fun a ha=>k _ ha
theorem s3 {o1 o2 o3:Oper} {d1 d2 d3:Nat} {v1 v2 v3:Value} (ha:Has n env a) (hk:vk n [o1,o2,o3]=some [d1,d2,d3]) (r1:∀ a,Has n env a→(execOp a.eval o1).run P w=.ok (.value v1) w) (r2:∀ a,Has n ((d1,v1)::env) a→(execOp a.eval o2).run P w=.ok (.value v2) w) (r3:∀ a,Has n ((d2,v2)::((d1,v1)::env)) a→(execOp a.eval o3).run P w=.ok (.value v3) w) (k:∀ a',Has n ((d3,v3)::((d2,v2)::((d1,v1)::env))) a'→wpList P ops Q rest a' w):wpList P ops Q (o1::o2::o3::rest) a w:=by
  obtain⟨g1,e1,b1,hk⟩:=vk_cons hk;obtain⟨g2,e2,b2,hk⟩:=vk_cons hk;obtain⟨g3,e3,b3,hk⟩:=vk_cons hk;exact sv ha (r1 _ ha) g1 e1 b1 fun a ha=>sv ha (r2 _ ha) g2 e2 b2 fun a ha=>sv ha (r3 _ ha) g3 e3 b3 fun a ha=>k _ ha
theorem s4 {o1 o2 o3 o4:Oper} {d1 d2 d3 d4:Nat} {v1 v2 v3 v4:Value} (ha:Has n env a) (hk:vk n [o1,o2,o3,o4]=some [d1,d2,d3,d4]) (r1:∀ a,Has n env a→(execOp a.eval o1).run P w=.ok (.value v1) w) (r2:∀ a,Has n ((d1,v1)::env) a→(execOp a.eval o2).run P w=.ok (.value v2) w) (r3:∀ a,Has n ((d2,v2)::((d1,v1)::env)) a→(execOp a.eval o3).run P w=.ok (.value v3) w) (r4:∀ a,Has n ((d3,v3)::((d2,v2)::((d1,v1)::env))) a→(execOp a.eval o4).run P w=.ok (.value v4) w) (k:∀ a',Has n ((d4,v4)::((d3,v3)::((d2,v2)::((d1,v1)::env)))) a'→wpList P ops Q rest a' w):wpList P ops Q (o1::o2::o3::o4::rest) a w:=by
  obtain⟨g1,e1,b1,hk⟩:=vk_cons hk;obtain⟨g2,e2,b2,hk⟩:=vk_cons hk;obtain⟨g3,e3,b3,hk⟩:=vk_cons hk;obtain⟨g4,e4,b4,hk⟩:=vk_cons hk;exact sv ha (r1 _ ha) g1 e1 b1 fun a ha=>sv ha (r2 _ ha) g2 e2 b2 fun a ha=>sv ha (r3 _ ha) g3 e3 b3 fun a ha=>sv ha (r4 _ ha) g4 e4 b4 fun a ha=>k _ ha
theorem s5 {o1 o2 o3 o4 o5:Oper} {d1 d2 d3 d4 d5:Nat} {v1 v2 v3 v4 v5:Value} (ha:Has n env a) (hk:vk n [o1,o2,o3,o4,o5]=some [d1,d2,d3,d4,d5]) (r1:∀ a,Has n env a→(execOp a.eval o1).run P w=.ok (.value v1) w) (r2:∀ a,Has n ((d1,v1)::env) a→(execOp a.eval o2).run P w=.ok (.value v2) w) (r3:∀ a,Has n ((d2,v2)::((d1,v1)::env)) a→(execOp a.eval o3).run P w=.ok (.value v3) w) (r4:∀ a,Has n ((d3,v3)::((d2,v2)::((d1,v1)::env))) a→(execOp a.eval o4).run P w=.ok (.value v4) w) (r5:∀ a,Has n ((d4,v4)::((d3,v3)::((d2,v2)::((d1,v1)::env)))) a→(execOp a.eval o5).run P w=.ok (.value v5) w) (k:∀ a',Has n ((d5,v5)::((d4,v4)::((d3,v3)::((d2,v2)::((d1,v1)::env))))) a'→wpList P ops Q rest a' w):wpList P ops Q (o1::o2::o3::o4::o5::rest) a w:=by
  obtain⟨g1,e1,b1,hk⟩:=vk_cons hk;obtain⟨g2,e2,b2,hk⟩:=vk_cons hk;obtain⟨g3,e3,b3,hk⟩:=vk_cons hk;obtain⟨g4,e4,b4,hk⟩:=vk_cons hk;obtain⟨g5,e5,b5,hk⟩:=vk_cons hk;exact sv ha (r1 _ ha) g1 e1 b1 fun a ha=>sv ha (r2 _ ha) g2 e2 b2 fun a ha=>sv ha (r3 _ ha) g3 e3 b3 fun a ha=>sv ha (r4 _ ha) g4 e4 b4 fun a ha=>sv ha (r5 _ ha) g5 e5 b5 fun a ha=>k _ ha
theorem s6 {o1 o2 o3 o4 o5 o6:Oper} {d1 d2 d3 d4 d5 d6:Nat} {v1 v2 v3 v4 v5 v6:Value} (ha:Has n env a) (hk:vk n [o1,o2,o3,o4,o5,o6]=some [d1,d2,d3,d4,d5,d6]) (r1:∀ a,Has n env a→(execOp a.eval o1).run P w=.ok (.value v1) w) (r2:∀ a,Has n ((d1,v1)::env) a→(execOp a.eval o2).run P w=.ok (.value v2) w) (r3:∀ a,Has n ((d2,v2)::((d1,v1)::env)) a→(execOp a.eval o3).run P w=.ok (.value v3) w) (r4:∀ a,Has n ((d3,v3)::((d2,v2)::((d1,v1)::env))) a→(execOp a.eval o4).run P w=.ok (.value v4) w) (r5:∀ a,Has n ((d4,v4)::((d3,v3)::((d2,v2)::((d1,v1)::env)))) a→(execOp a.eval o5).run P w=.ok (.value v5) w) (r6:∀ a,Has n ((d5,v5)::((d4,v4)::((d3,v3)::((d2,v2)::((d1,v1)::env))))) a→(execOp a.eval o6).run P w=.ok (.value v6) w) (k:∀ a',Has n ((d6,v6)::((d5,v5)::((d4,v4)::((d3,v3)::((d2,v2)::((d1,v1)::env)))))) a'→wpList P ops Q rest a' w):wpList P ops Q (o1::o2::o3::o4::o5::o6::rest) a w:=by
  obtain⟨g1,e1,b1,hk⟩:=vk_cons hk;obtain⟨g2,e2,b2,hk⟩:=vk_cons hk;obtain⟨g3,e3,b3,hk⟩:=vk_cons hk;obtain⟨g4,e4,b4,hk⟩:=vk_cons hk;obtain⟨g5,e5,b5,hk⟩:=vk_cons hk;obtain⟨g6,e6,b6,hk⟩:=vk_cons hk;exact sv ha (r1 _ ha) g1 e1 b1 fun a ha=>sv ha (r2 _ ha) g2 e2 b2 fun a ha=>sv ha (r3 _ ha) g3 e3 b3 fun a ha=>sv ha (r4 _ ha) g4 e4 b4 fun a ha=>sv ha (r5 _ ha) g5 e5 b5 fun a ha=>sv ha (r6 _ ha) g6 e6 b6 fun a ha=>k _ ha
end
section
variable {P:Program} {ops:Array Oper} {Q:Exit→Act→World→Prop} {S:World→Prop} {T st:List Nat} {a:Act} {w:World} {r:List Nat} {n:Nat} {env:Env}
theorem c1 {i1:Nat} {o1:Oper} {d1:Nat} {v1:Value} (ha:Has n env a) (hk:vc ops st n [i1]=some [(o1,d1)]) (r1:∀ w,S w→∀ a,Has n env a→(execOp a.eval o1).run P w=.ok (.value v1) w) (k:∀ a',Has n ((d1,v1)::env) a'→wpC P ops Q S T st r a' w):wpC P ops Q S T st (i1::r) a w:=by
  obtain⟨hi1,hc1,g1,e1,b1,hk⟩:=vc_cons hk;exact cv ha hi1 hc1 (fun w hS=>r1 w hS _ ha) g1 e1 b1 fun a ha=>k _ ha
theorem c2 {i1 i2:Nat} {o1 o2:Oper} {d1 d2:Nat} {v1 v2:Value} (ha:Has n env a) (hk:vc ops st n [i1,i2]=some [(o1,d1),(o2,d2)]) (r1:∀ w,S w→∀ a,Has n env a→(execOp a.eval o1).run P w=.ok (.value v1) w) (r2:∀ w,S w→∀ a,Has n ((d1,v1)::env) a→(execOp a.eval o2).run P w=.ok (.value v2) w) (k:∀ a',Has n ((d2,v2)::((d1,v1)::env)) a'→wpC P ops Q S T st r a' w):wpC P ops Q S T st (i1::i2::r) a w:=by
  obtain⟨hi1,hc1,g1,e1,b1,hk⟩:=vc_cons hk;obtain⟨hi2,hc2,g2,e2,b2,hk⟩:=vc_cons hk;exact cv ha hi1 hc1 (fun w hS=>r1 w hS _ ha) g1 e1 b1 fun a ha=>cv ha hi2 hc2 (fun w hS=>r2 w hS _ ha) g2 e2 b2 fun a ha=>k _ ha
theorem c3 {i1 i2 i3:Nat} {o1 o2 o3:Oper} {d1 d2 d3:Nat} {v1 v2 v3:Value} (ha:Has n env a) (hk:vc ops st n [i1,i2,i3]=some [(o1,d1),(o2,d2),(o3,d3)]) (r1:∀ w,S w→∀ a,Has n env a→(execOp a.eval o1).run P w=.ok (.value v1) w) (r2:∀ w,S w→∀ a,Has n ((d1,v1)::env) a→(execOp a.eval o2).run P w=.ok (.value v2) w) (r3:∀ w,S w→∀ a,Has n ((d2,v2)::((d1,v1)::env)) a→(execOp a.eval o3).run P w=.ok (.value v3) w) (k:∀ a',Has n ((d3,v3)::((d2,v2)::((d1,v1)::env))) a'→wpC P ops Q S T st r a' w):wpC P ops Q S T st (i1::i2::i3::r) a w:=by
  obtain⟨hi1,hc1,g1,e1,b1,hk⟩:=vc_cons hk;obtain⟨hi2,hc2,g2,e2,b2,hk⟩:=vc_cons hk;obtain⟨hi3,hc3,g3,e3,b3,hk⟩:=vc_cons hk;exact cv ha hi1 hc1 (fun w hS=>r1 w hS _ ha) g1 e1 b1 fun a ha=>cv ha hi2 hc2 (fun w hS=>r2 w hS _ ha) g2 e2 b2 fun a ha=>cv ha hi3 hc3 (fun w hS=>r3 w hS _ ha) g3 e3 b3 fun a ha=>k _ ha
theorem c4 {i1 i2 i3 i4:Nat} {o1 o2 o3 o4:Oper} {d1 d2 d3 d4:Nat} {v1 v2 v3 v4:Value} (ha:Has n env a) (hk:vc ops st n [i1,i2,i3,i4]=some [(o1,d1),(o2,d2),(o3,d3),(o4,d4)]) (r1:∀ w,S w→∀ a,Has n env a→(execOp a.eval o1).run P w=.ok (.value v1) w) (r2:∀ w,S w→∀ a,Has n ((d1,v1)::env) a→(execOp a.eval o2).run P w=.ok (.value v2) w) (r3:∀ w,S w→∀ a,Has n ((d2,v2)::((d1,v1)::env)) a→(execOp a.eval o3).run P w=.ok (.value v3) w) (r4:∀ w,S w→∀ a,Has n ((d3,v3)::((d2,v2)::((d1,v1)::env))) a→(execOp a.eval o4).run P w=.ok (.value v4) w) (k:∀ a',Has n ((d4,v4)::((d3,v3)::((d2,v2)::((d1,v1)::env)))) a'→wpC P ops Q S T st r a' w):wpC P ops Q S T st (i1::i2::i3::i4::r) a w:=by
  obtain⟨hi1,hc1,g1,e1,b1,hk⟩:=vc_cons hk;obtain⟨hi2,hc2,g2,e2,b2,hk⟩:=vc_cons hk;obtain⟨hi3,hc3,g3,e3,b3,hk⟩:=vc_cons hk;obtain⟨hi4,hc4,g4,e4,b4,hk⟩:=vc_cons hk;exact cv ha hi1 hc1 (fun w hS=>r1 w hS _ ha) g1 e1 b1 fun a ha=>cv ha hi2 hc2 (fun w hS=>r2 w hS _ ha) g2 e2 b2 fun a ha=>cv ha hi3 hc3 (fun w hS=>r3 w hS _ ha) g3 e3 b3 fun a ha=>cv ha hi4 hc4 (fun w hS=>r4 w hS _ ha) g4 e4 b4 fun a ha=>k _ ha
theorem c6 {i1 i2 i3 i4 i5 i6:Nat} {o1 o2 o3 o4 o5 o6:Oper} {d1 d2 d3 d4 d5 d6:Nat} {v1 v2 v3 v4 v5 v6:Value} (ha:Has n env a) (hk:vc ops st n [i1,i2,i3,i4,i5,i6]=some [(o1,d1),(o2,d2),(o3,d3),(o4,d4),(o5,d5),(o6,d6)]) (r1:∀ w,S w→∀ a,Has n env a→(execOp a.eval o1).run P w=.ok (.value v1) w) (r2:∀ w,S w→∀ a,Has n ((d1,v1)::env) a→(execOp a.eval o2).run P w=.ok (.value v2) w) (r3:∀ w,S w→∀ a,Has n ((d2,v2)::((d1,v1)::env)) a→(execOp a.eval o3).run P w=.ok (.value v3) w) (r4:∀ w,S w→∀ a,Has n ((d3,v3)::((d2,v2)::((d1,v1)::env))) a→(execOp a.eval o4).run P w=.ok (.value v4) w) (r5:∀ w,S w→∀ a,Has n ((d4,v4)::((d3,v3)::((d2,v2)::((d1,v1)::env)))) a→(execOp a.eval o5).run P w=.ok (.value v5) w) (r6:∀ w,S w→∀ a,Has n ((d5,v5)::((d4,v4)::((d3,v3)::((d2,v2)::((d1,v1)::env))))) a→(execOp a.eval o6).run P w=.ok (.value v6) w) (k:∀ a',Has n ((d6,v6)::((d5,v5)::((d4,v4)::((d3,v3)::((d2,v2)::((d1,v1)::env)))))) a'→wpC P ops Q S T st r a' w):wpC P ops Q S T st (i1::i2::i3::i4::i5::i6::r) a w:=by
  obtain⟨hi1,hc1,g1,e1,b1,hk⟩:=vc_cons hk;obtain⟨hi2,hc2,g2,e2,b2,hk⟩:=vc_cons hk;obtain⟨hi3,hc3,g3,e3,b3,hk⟩:=vc_cons hk;obtain⟨hi4,hc4,g4,e4,b4,hk⟩:=vc_cons hk;obtain⟨hi5,hc5,g5,e5,b5,hk⟩:=vc_cons hk;obtain⟨hi6,hc6,g6,e6,b6,hk⟩:=vc_cons hk;exact cv ha hi1 hc1 (fun w hS=>r1 w hS _ ha) g1 e1 b1 fun a ha=>cv ha hi2 hc2 (fun w hS=>r2 w hS _ ha) g2 e2 b2 fun a ha=>cv ha hi3 hc3 (fun w hS=>r3 w hS _ ha) g3 e3 b3 fun a ha=>cv ha hi4 hc4 (fun w hS=>r4 w hS _ ha) g4 e4 b4 fun a ha=>cv ha hi5 hc5 (fun w hS=>r5 w hS _ ha) g5 e5 b5 fun a ha=>cv ha hi6 hc6 (fun w hS=>r6 w hS _ ha) g6 e6 b6 fun a ha=>k _ ha
end
end Go.Rx

/- The seat's program: what its package-level variables hold. -/
namespace Go.Proofs.YtdhgkfmniebghaaDoor
open Go.RowKit Go.Rx
theorem mixed:Tryd.prog.follows .mixedOrders=true:=by kernel_rfl
def Glob (w:World):Prop:=GlobAt w 0 (consts.map e64)∧GlobAt w 1 (turns.map en)
theorem glob_keep {w0 w:World} (h:Glob w0) (hb:Below w0.heap.size w0 w):Glob w:=⟨(h.1).keep hb,(h.2).keep hb⟩
theorem glob_0 {w0 w:World} (h:Glob w0) (hb:Below w0.heap.size w0 w):GlobAt w 0 (consts.map e64):=(h.1).keep hb
theorem glob_1 {w0 w:World} (h:Glob w0) (hb:Below w0.heap.size w0 w):GlobAt w 1 (turns.map en):=(h.2).keep hb
end Go.Proofs.YtdhgkfmniebghaaDoor

/- WALKS written by gen.py (own program) out of specs. -/
namespace Go.Proofs.YtdhgkfmniebghaaDoor
open Go.RowKit Go.Rx
set_option maxRecDepth 100000
set_option maxHeartbeats 4000000
set_option linter.unusedVariables false
set_option linter.unusedSimpArgs false

theorem c_rot (x:UInt64) (k:Nat) (w0:World) (hk:k≤9223372036854775807):
    Calls Tryd.prog 71 #[e64 x,en k] w0 fun e w'=>e=.returned (e64 (rotl x k))∧Below w0.heap.size w0 w':=by
 refine enter (args:=[_,_]) Tryd.func71 rfl Tryd.ntmps71 rfl ?_;intro a ha;have hB:=Below.refl w0.heap.size w0;refine qr fun K1 k2=>?_;refine s1 ha rfl (av rfl) ?_;intro a ha;refine k2 _ _ ?_;refine qr fun K3 k4=>?_;refine s4 ha rfl (mv rfl) (fun _ ha=>r_conv_n_u64 ha k Tryd.runUnderlying3 Tryd.runUnderlying77 rfl (by omega)) (fun _ ha=>rx_mask ha k 6 (by omega) (m:=63) rfl (by omega) rfl rfl) (av rfl) ?_;intro a ha;refine k4 _ _ ?_;refine qr fun K5 k6=>?_;refine s6 ha rfl (mv rfl) (mv rfl) (fun _ ha=>ru_shl ha x (k % 2 ^ 6) rfl rfl (by omega)) (mv rfl) (mv rfl) (fun _ ha=>rx_sub ha 64 (k % 2 ^ 6) rfl rfl (by omega) (by omega)) ?_;intro a ha;refine s3 ha rfl (fun _ ha=>ru_shrG ha x (64 - (k % 2 ^ 6)) rfl rfl) (fun _ ha=>ru_or ha (x <<< UInt64.ofNat (k % 2 ^ 6)) (shrG x (64 - (k % 2 ^ 6))) rfl rfl) (av rfl) ?_;intro a ha;refine k6 _ _ ?_;refine wp_ret ?_;exact ret1 ha Tryd.results71 rfl ⟨rfl,hB⟩

theorem zero_26K1:∀ w,(zeroValue 26).run Tryd.prog w=.ok (.agg ((List.replicate 25 (0:UInt64)).map e64).toArray) w:=fun _=>by kernel_rfl
theorem zero_80K1:∀ w,(zeroValue 80).run Tryd.prog w=.ok (.agg ((List.replicate 5 (0:UInt64)).map e64).toArray) w:=fun _=>by kernel_rfl
theorem c_theta (l:List UInt64) (w0:World) (hl:l.length=25):
    Calls Tryd.prog 70 #[.agg ((l).map e64).toArray] w0 fun e w'=>e=.returned (.agg ((theta l).map e64).toArray)∧Below w0.heap.size w0 w':=by
 refine enter (args:=[_]) Tryd.func70 rfl Tryd.ntmps70 rfl ?_;intro a ha;have hB:=Below.refl w0.heap.size w0;refine qr fun K1 k2=>?_;refine sbox ha rfl rfl ?_;intro a w3 b4 ha hg hb4 hge4 hlt4;have hz4:=bz hB hge4;have hB:=keepB0 hg hB;refine salloc ha zero_26K1 rfl ?_;intro a w5 b6 ha hg hb6 hge6 hlt6;have hz6:=bz hB hge6;have hq4_6:=bl hb4 hge6;have⟨hB,hb4⟩:=kB1 hg hB hb4;refine k2 _ _ ?_;refine qr fun K7 k8=>?_;refine salloc ha zero_80K1 rfl ?_;intro a w9 b10 ha hg hb10 hge10 hlt10;have hz10:=bz hB hge10;have hq4_10:=bl hb4 hge10;have hq6_10:=bl hb6 hge10;have⟨hB,hb4,hb6⟩:=kB2 hg hB hb4 hb6;refine k8 _ _ ?_;refine wp_seq_k fun K11 k12=>?_;refine qr fun K13 k14=>?_;refine s1 ha rfl (mv rfl) ?_;intro a ha;refine k14 _ _ ?_;refine wp_block ?_;refine loopG (fun(k:Nat) a w=>(k≤5)∧Has 60 [(1,.pointer (some ⟨b4,0,none⟩)),(2,.pointer (some ⟨b6,0,none⟩)),(3,.pointer (some ⟨b10,0,none⟩)),(7,en k)] a∧Below w0.heap.size w0 w∧w.heap[b4]?=some (.cells ((l).map e64).toArray 26 (0,0))∧w.heap[b6]?=some (.cells ((List.replicate 25 (0:UInt64)).map e64).toArray 26 (0,0))∧w.heap[b10]?=some (.cells ((thC l k).map e64).toArray 80 (0,0))) (fun k=>5 - k) 0 ⟨(by omega),ha.to [1,2,3,7] rfl,hB,hb4,hb6,hb10⟩ ?_;clear ha a hB hb4 hb6 hb10;intro k a w15 ⟨hkk,ha,hB,hb4,hb6,hb10⟩;refine qr fun K16 k17=>?_;refine s1 ha rfl (fun _ ha=>r_lss ha ((k:Nat):Int) 5 (decide (k<5)) rfl rfl (dD (by omega))) ?_;intro a ha;refine k17 _ _ ?_;refine wp_seq_k fun K18 k19=>?_;refine cond_if ha rfl (fun hc20=>?_) (fun hc20=>?_)
 ·skip
  have hc20:=dT hc20;refine wp_skip ?_;refine k19 _ _ ?_;refine wp_seq_k fun K21 k22=>?_;refine wp_block ?_;refine qr fun K23 k24=>?_;refine s2 ha rfl (mv rfl) (av rfl) ?_;intro a ha;refine k24 _ _ ?_;refine regionD (S:=fun w=>Below w0.heap.size w0 w∧w.heap[b4]?=some (.cells ((l).map e64).toArray 26 (0,0))∧w.heap[b6]?=some (.cells ((List.replicate 25 (0:UInt64)).map e64).toArray 26 (0,0))∧w.heap[b10]?=some (.cells ((thC l k).map e64).toArray 80 (0,0))∧True) [25] [0,1,2,3,4,5,6,7,8,9,10,11,12,13,14,15,16,17,18,19,20,21,22,23,24] [0,1,2,3,4,5,6,7,8,9,10,11,12,13,14,15,16,17,18,19,20,21,22,23,24,25] mixed (by kernel_rfl) (fun w hg=>⟨keepB0 hg hB,keepO0 hg hb4,keepO0 hg hb6,keepO0 hg hb10,trivial⟩) ?_;intro w25 hg;have⟨hB,hb4,hb6,hb10⟩:=kB3 hg hB hb4 hb6 hb10;refine c6 ha rfl (cmv rfl) (cmv rfl) (fun w _ _ ha=>r_indexArr (i:=k) ha k Tryd.runUnderlying26 Tryd.sizeOf25 rfl rfl (by omega) (by omega)) (fun w ⟨_,hb4,_⟩ _ ha=>r_load ha rfl Tryd.isAgg25 (cell_of hb4 (get_map e64 l 0 k (by rw[hl];omega)))) (cmv rfl) (fun w _ _ ha=>rn_add ha k 5 rfl rfl (by omega)) ?_;intro a ha;refine c6 ha rfl (fun w _ _ ha=>r_indexArr (i:=k+5) ha (k+5) Tryd.runUnderlying26 Tryd.sizeOf25 rfl rfl (by omega) (by omega)) (fun w ⟨_,hb4,_⟩ _ ha=>r_load ha rfl Tryd.isAgg25 (cell_of hb4 (get_map e64 l 0 (k+5) (by rw[hl];omega)))) (fun w _ _ ha=>ru_xor ha (l.getD k 0) (l.getD (k+5) 0) rfl rfl) (cmv rfl) (fun w _ _ ha=>rn_add ha k 10 rfl rfl (by omega)) (fun w _ _ ha=>r_indexArr (i:=k+10) ha (k+10) Tryd.runUnderlying26 Tryd.sizeOf25 rfl rfl (by omega) (by omega)) ?_;intro a ha;refine c6 ha rfl (fun w ⟨_,hb4,_⟩ _ ha=>r_load ha rfl Tryd.isAgg25 (cell_of hb4 (get_map e64 l 0 (k+10) (by rw[hl];omega)))) (fun w _ _ ha=>ru_xor ha ((l.getD k 0)^^^(l.getD (k+5) 0)) (l.getD (k+10) 0) rfl rfl) (cmv rfl) (fun w _ _ ha=>rn_add ha k 15 rfl rfl (by omega)) (fun w _ _ ha=>r_indexArr (i:=k+15) ha (k+15) Tryd.runUnderlying26 Tryd.sizeOf25 rfl rfl (by omega) (by omega)) (fun w ⟨_,hb4,_⟩ _ ha=>r_load ha rfl Tryd.isAgg25 (cell_of hb4 (get_map e64 l 0 (k+15) (by rw[hl];omega)))) ?_;intro a ha;refine c6 ha rfl (fun w _ _ ha=>ru_xor ha (((l.getD k 0)^^^(l.getD (k+5) 0))^^^(l.getD (k+10) 0)) (l.getD (k+15) 0) rfl rfl) (cmv rfl) (fun w _ _ ha=>rn_add ha k 20 rfl rfl (by omega)) (fun w _ _ ha=>r_indexArr (i:=k+20) ha (k+20) Tryd.runUnderlying26 Tryd.sizeOf25 rfl rfl (by omega) (by omega)) (fun w ⟨_,hb4,_⟩ _ ha=>r_load ha rfl Tryd.isAgg25 (cell_of hb4 (get_map e64 l 0 (k+20) (by rw[hl];omega)))) (fun w _ _ ha=>ru_xor ha ((((l.getD k 0)^^^(l.getD (k+5) 0))^^^(l.getD (k+10) 0))^^^(l.getD (k+15) 0)) (l.getD (k+20) 0) rfl rfl) ?_;intro a ha;refine c1 ha rfl (fun w _ _ ha=>r_indexArr (i:=k) ha k Tryd.runUnderlying80 Tryd.sizeOf25 rfl rfl (by omega) (by omega)) ?_;intro a ha;refine cstore ha rfl rfl (v:=e64 (((((l.getD k 0)^^^(l.getD (k+5) 0))^^^(l.getD (k+10) 0))^^^(l.getD (k+15) 0))^^^(l.getD (k+20) 0))) rfl rfl rfl rfl Tryd.sizeOf25 hb10 (by rw[lM,thC_len];omega) rfl ?_;intro a w26 ha hg hb10';rw[set_map] at hb10';have hb10:=hb10';have hB:=keepB1 hg (by omega) hB;have hb4:=keepO1 hg (by omega) hb4;have hb6:=keepO1 hg (by omega) hb6;refine cfin (k22 _ _ ?_);refine region ?_;refine s2 ha rfl (fun _ ha=>rn_add ha k 1 rfl rfl (by omega)) (mv rfl) ?_;intro a ha;exact⟨k+1,by omega,(by omega),ha.to [1,2,3,7] rfl,hB,hb4,hb6,hb10⟩
 ·skip
  have hc20:=dF hc20;refine wp_exit ?_;obtain rfl:k=5:=by omega
  refine k12 _ _ ?_;refine wp_seq_k fun K27 k28=>?_;refine qr fun K29 k30=>?_;refine s1 ha rfl (mv rfl) ?_;intro a ha;refine k30 _ _ ?_;refine wp_block ?_;refine loopG (fun(k:Nat) a w=>(k≤25)∧Has 60 [(1,.pointer (some ⟨b4,0,none⟩)),(2,.pointer (some ⟨b6,0,none⟩)),(3,.pointer (some ⟨b10,0,none⟩)),(36,en k)] a∧Below w0.heap.size w0 w∧w.heap[b4]?=some (.cells ((thA l k).map e64).toArray 26 (0,0))∧w.heap[b6]?=some (.cells ((List.replicate 25 (0:UInt64)).map e64).toArray 26 (0,0))∧w.heap[b10]?=some (.cells ((thC l 5).map e64).toArray 80 (0,0))) (fun k=>25 - k) 0 ⟨(by omega),ha.to [1,2,3,36] rfl,hB,hb4,hb6,hb10⟩ ?_;clear ha a hB hb4 hb6 hb10;intro k a w31 ⟨hkk,ha,hB,hb4,hb6,hb10⟩;refine qr fun K32 k33=>?_;refine s1 ha rfl (fun _ ha=>r_lss ha ((k:Nat):Int) 25 (decide (k<25)) rfl rfl (dD (by omega))) ?_;intro a ha;refine k33 _ _ ?_;refine wp_seq_k fun K34 k35=>?_;refine cond_if ha rfl (fun hc36=>?_) (fun hc36=>?_)
  ·skip
   have hc36:=dT hc36;refine wp_skip ?_;refine k35 _ _ ?_;refine wp_seq_k fun K37 k38=>?_;refine wp_block ?_;refine qr fun K39 k40=>?_;refine s2 ha rfl (mv rfl) (av rfl) ?_;intro a ha;refine k40 _ _ ?_;refine qr fun K41 k42=>?_;refine s3 ha rfl (mv rfl) (fun _ ha=>rn_rem ha k 5 rfl rfl (by omega)) (av rfl) ?_;intro a ha;refine k42 _ _ ?_;refine regionD (S:=fun w=>Below w0.heap.size w0 w∧w.heap[b4]?=some (.cells ((thA l k).map e64).toArray 26 (0,0))∧w.heap[b6]?=some (.cells ((List.replicate 25 (0:UInt64)).map e64).toArray 26 (0,0))∧w.heap[b10]?=some (.cells ((thC l 5).map e64).toArray 80 (0,0))∧True) [17] [0,1,2,3,4,5,6,7,8,9,10,11,12,14,15,16] [0,1,2,3,4,5,6,7,8,9,10,11,12,13,14,15,16,17] mixed (by kernel_rfl) (fun w hg=>⟨keepB0 hg hB,keepO0 hg hb4,keepO0 hg hb6,keepO0 hg hb10,trivial⟩) ?_;intro w43 hg;have⟨hB,hb4,hb6,hb10⟩:=kB3 hg hB hb4 hb6 hb10;refine c6 ha rfl (cmv rfl) (fun w _ _ ha=>r_indexArr (i:=k) ha k Tryd.runUnderlying26 Tryd.sizeOf25 rfl rfl (by omega) (by omega)) (fun w ⟨_,hb4,_⟩ _ ha=>r_load ha rfl Tryd.isAgg25 (cell_of hb4 (get_map e64 (thA l k) 0 k (by rw[thA_len,hl];omega)))) (cmv rfl) (fun w _ _ ha=>rn_add ha (k % 5) 4 rfl rfl (by omega)) (fun w _ _ ha=>rn_rem ha ((k % 5)+4) 5 rfl rfl (by omega)) ?_;intro a ha;refine c6 ha rfl (fun w _ _ ha=>r_indexArr (i:=((k % 5)+4) % 5) ha (((k % 5)+4) % 5) Tryd.runUnderlying80 Tryd.sizeOf25 rfl rfl (by omega) (by omega)) (fun w ⟨_,_,_,hb10,_⟩ _ ha=>r_load ha rfl Tryd.isAgg25 (cell_of hb10 (get_map e64 (thC l 5) 0 (((k % 5)+4) % 5) (by rw[thC_len];omega)))) (cmv rfl) (fun w _ _ ha=>rn_add ha (k % 5) 1 rfl rfl (by omega)) (fun w _ _ ha=>rn_rem ha ((k % 5)+1) 5 rfl rfl (by omega)) (fun w _ _ ha=>r_indexArr (i:=((k % 5)+1) % 5) ha (((k % 5)+1) % 5) Tryd.runUnderlying80 Tryd.sizeOf25 rfl rfl (by omega) (by omega)) ?_;intro a ha;refine c1 ha rfl (fun w ⟨_,_,_,hb10,_⟩ _ ha=>r_load ha rfl Tryd.isAgg25 (cell_of hb10 (get_map e64 (thC l 5) 0 (((k % 5)+1) % 5) (by rw[thC_len];omega)))) ?_;intro a ha;refine cc ha rfl rfl (r_call ha [_,_] rfl Tryd.call71) rfl rfl rfl (c_rot ((thC l 5).getD (((k % 5)+1) % 5) 0) 1 _ (by omega)) ?_;rintro e w44 ⟨rfl,hBc⟩;have hg:=grown_call hBc;have⟨hB,hb4,hb6,hb10⟩:=kB3 hg hB hb4 hb6 hb10;refine⟨fun _=>⟨hB,hb4,hb6,hb10,trivial⟩,_,rfl,?_⟩;intro a ha;refine c3 ha rfl (fun w _ _ ha=>ru_xor ha ((thC l 5).getD (((k % 5)+4) % 5) 0) (rotl ((thC l 5).getD (((k % 5)+1) % 5) 0) 1) rfl rfl) (fun w _ _ ha=>ru_xor ha ((thA l k).getD k 0) (((thC l 5).getD (((k % 5)+4) % 5) 0)^^^(rotl ((thC l 5).getD (((k % 5)+1) % 5) 0) 1)) rfl rfl) (fun w _ _ ha=>r_indexArr (i:=k) ha k Tryd.runUnderlying26 Tryd.sizeOf25 rfl rfl (by omega) (by omega)) ?_;intro a ha;refine cstore ha rfl rfl (v:=e64 (((thA l k).getD k 0)^^^(((thC l 5).getD (((k % 5)+4) % 5) 0)^^^(rotl ((thC l 5).getD (((k % 5)+1) % 5) 0) 1)))) rfl rfl rfl rfl Tryd.sizeOf25 hb4 (by rw[lM,thA_len,hl];omega) rfl ?_;intro a w45 ha hg hb4';rw[set_map] at hb4';have hb4:=hb4';have hB:=keepB1 hg (by omega) hB;have hb6:=keepO1 hg (by omega) hb6;have hb10:=keepO1 hg (by omega) hb10;refine cfin (k38 _ _ ?_);refine region ?_;refine s2 ha rfl (fun _ ha=>rn_add ha k 1 rfl rfl (by omega)) (mv rfl) ?_;intro a ha;exact⟨k+1,by omega,(by omega),ha.to [1,2,3,36] rfl,hB,hb4,hb6,hb10⟩
  ·skip
   have hc36:=dF hc36;refine wp_exit ?_;obtain rfl:k=25:=by omega
   refine k28 _ _ ?_;refine qr fun K46 k47=>?_;refine s1 ha rfl (fun _ ha=>r_loadR ha rfl Tryd.isAgg26 Tryd.sizeOf26 (C:=(thA l 25).map e64) (by rw[lM,thA_len,hl]) (cells_all hb4)) ?_;intro a ha;refine sstoreW ha rfl rfl (one_e64 _) Tryd.sizeOf26 (by rw[lM,thA_len,hl]) hb6 (by rw[lM,lR]) ?_;intro a w48 ha hg hb6';have hb6:=hb6';have hB:=keepB1 hg (by omega) hB;have hb4:=keepO1 hg (by omega) hb4;refine k47 _ _ ?_;refine wp_ret ?_;exact retC _ ha Tryd.results70 rfl hb6 Tryd.underlying26 rfl (by rw[lM,thA_len,hl];kernel_rfl) ⟨rfl,hB⟩

theorem c_rho (l:List UInt64) (w0:World) (hl:l.length=25) (hG:Glob w0):
    Calls Tryd.prog 69 #[.agg ((l).map e64).toArray] w0 fun e w'=>e=.returned (.agg ((rho l).map e64).toArray)∧Below w0.heap.size w0 w':=by
 refine enter (args:=[_]) Tryd.func69 rfl Tryd.ntmps69 rfl ?_;intro a ha;have hB:=Below.refl w0.heap.size w0;refine qr fun K1 k2=>?_;refine sbox ha rfl rfl ?_;intro a w3 b4 ha hg hb4 hge4 hlt4;have hz4:=bz hB hge4;have hB:=keepB0 hg hB;refine salloc ha zero_26K1 rfl ?_;intro a w5 b6 ha hg hb6 hge6 hlt6;have hz6:=bz hB hge6;have hq4_6:=bl hb4 hge6;have⟨hB,hb4⟩:=kB1 hg hB hb4;refine k2 _ _ ?_;refine wp_seq_k fun K7 k8=>?_;refine qr fun K9 k10=>?_;refine s1 ha rfl (mv rfl) ?_;intro a ha;refine k10 _ _ ?_;refine wp_block ?_;refine loopG (fun(k:Nat) a w=>(k≤25)∧Has 18 [(1,.pointer (some ⟨b4,0,none⟩)),(2,.pointer (some ⟨b6,0,none⟩)),(4,en k)] a∧Below w0.heap.size w0 w∧w.heap[b4]?=some (.cells ((rhoA l k).map e64).toArray 26 (0,0))∧w.heap[b6]?=some (.cells ((List.replicate 25 (0:UInt64)).map e64).toArray 26 (0,0))) (fun k=>25 - k) 0 ⟨(by omega),ha.to [1,2,4] rfl,hB,hb4,hb6⟩ ?_;clear ha a hB hb4 hb6;intro k a w11 ⟨hkk,ha,hB,hb4,hb6⟩;refine qr fun K12 k13=>?_;refine s1 ha rfl (fun _ ha=>r_lss ha ((k:Nat):Int) 25 (decide (k<25)) rfl rfl (dD (by omega))) ?_;intro a ha;refine k13 _ _ ?_;refine wp_seq_k fun K14 k15=>?_;refine cond_if ha rfl (fun hc16=>?_) (fun hc16=>?_)
 ·skip
  have hc16:=dT hc16;refine wp_skip ?_;refine k15 _ _ ?_;refine wp_seq_k fun K17 k18=>?_;refine wp_block ?_;refine qr fun K19 k20=>?_;refine s2 ha rfl (mv rfl) (av rfl) ?_;intro a ha;refine k20 _ _ ?_;refine regionD (S:=fun w=>Below w0.heap.size w0 w∧w.heap[b4]?=some (.cells ((rhoA l k).map e64).toArray 26 (0,0))∧w.heap[b6]?=some (.cells ((List.replicate 25 (0:UInt64)).map e64).toArray 26 (0,0))∧True) [9] [0,1,2,3,4,5,6,8] [0,1,2,3,4,5,6,7,8,9] mixed (by kernel_rfl) (fun w hg=>⟨keepB0 hg hB,keepO0 hg hb4,keepO0 hg hb6,trivial⟩) ?_;intro w21 hg;have⟨hB,hb4,hb6⟩:=kB2 hg hB hb4 hb6;refine c6 ha rfl (cmv rfl) (cmv rfl) (fun w _ _ ha=>r_indexArr (i:=k) ha k Tryd.runUnderlying26 Tryd.sizeOf25 rfl rfl (by omega) (by omega)) (fun w ⟨_,hb4,_⟩ _ ha=>r_load ha rfl Tryd.isAgg25 (cell_of hb4 (get_map e64 (rhoA l k) 0 k (by rw[rhoA_len,hl];omega)))) (cmv rfl) (fun w _ _ ha=>r_indexArr (i:=k) ha k Tryd.runUnderlying79 Tryd.sizeOf3 rfl rfl (by omega) (by omega)) ?_;intro a ha;refine c1 ha rfl (fun w ⟨hB,_⟩ _ ha=>r_load ha rfl Tryd.isAgg3 (cell_glob (glob_1 hG hB) (get_map en turns 0 k (show _<25 by omega)))) ?_;intro a ha;refine cc ha rfl rfl (r_call ha [_,_] rfl Tryd.call71) rfl rfl rfl (c_rot ((rhoA l k).getD k 0) (turns.getD k 0) _ (by have:=turns_lt k (by omega);omega)) ?_;rintro e w22 ⟨rfl,hBc⟩;have hg:=grown_call hBc;have⟨hB,hb4,hb6⟩:=kB2 hg hB hb4 hb6;refine⟨fun _=>⟨hB,hb4,hb6,trivial⟩,_,rfl,?_⟩;intro a ha;refine c1 ha rfl (fun w _ _ ha=>r_indexArr (i:=k) ha k Tryd.runUnderlying26 Tryd.sizeOf25 rfl rfl (by omega) (by omega)) ?_;intro a ha;refine cstore ha rfl rfl (v:=e64 (rotl ((rhoA l k).getD k 0) (turns.getD k 0))) rfl rfl rfl rfl Tryd.sizeOf25 hb4 (by rw[lM,rhoA_len,hl];omega) rfl ?_;intro a w23 ha hg hb4';rw[set_map] at hb4';have hb4:=hb4';have hB:=keepB1 hg (by omega) hB;have hb6:=keepO1 hg (by omega) hb6;refine cfin (k18 _ _ ?_);refine region ?_;refine s2 ha rfl (fun _ ha=>rn_add ha k 1 rfl rfl (by omega)) (mv rfl) ?_;intro a ha;exact⟨k+1,by omega,(by omega),ha.to [1,2,4] rfl,hB,hb4,hb6⟩
 ·skip
  have hc16:=dF hc16;refine wp_exit ?_;obtain rfl:k=25:=by omega
  refine k8 _ _ ?_;refine qr fun K24 k25=>?_;refine s1 ha rfl (fun _ ha=>r_loadR ha rfl Tryd.isAgg26 Tryd.sizeOf26 (C:=(rhoA l 25).map e64) (by rw[lM,rhoA_len,hl]) (cells_all hb4)) ?_;intro a ha;refine sstoreW ha rfl rfl (one_e64 _) Tryd.sizeOf26 (by rw[lM,rhoA_len,hl]) hb6 (by rw[lM,lR]) ?_;intro a w26 ha hg hb6';have hb6:=hb6';have hB:=keepB1 hg (by omega) hB;have hb4:=keepO1 hg (by omega) hb4;refine k25 _ _ ?_;refine wp_ret ?_;exact retC _ ha Tryd.results69 rfl hb6 Tryd.underlying26 rfl (by rw[lM,rhoA_len,hl];kernel_rfl) ⟨rfl,hB⟩

theorem c_pi (l:List UInt64) (w0:World) (hl:l.length=25):
    Calls Tryd.prog 68 #[.agg ((l).map e64).toArray] w0 fun e w'=>e=.returned (.agg ((pi l).map e64).toArray)∧Below w0.heap.size w0 w':=by
 refine enter (args:=[_]) Tryd.func68 rfl Tryd.ntmps68 rfl ?_;intro a ha;have hB:=Below.refl w0.heap.size w0;refine qr fun K1 k2=>?_;refine sbox ha rfl rfl ?_;intro a w3 b4 ha hg hb4 hge4 hlt4;have hz4:=bz hB hge4;have hB:=keepB0 hg hB;refine salloc ha zero_26K1 rfl ?_;intro a w5 b6 ha hg hb6 hge6 hlt6;have hz6:=bz hB hge6;have hq4_6:=bl hb4 hge6;have⟨hB,hb4⟩:=kB1 hg hB hb4;refine k2 _ _ ?_;refine qr fun K7 k8=>?_;refine salloc ha zero_26K1 rfl ?_;intro a w9 b10 ha hg hb10 hge10 hlt10;have hz10:=bz hB hge10;have hq4_10:=bl hb4 hge10;have hq6_10:=bl hb6 hge10;have⟨hB,hb4,hb6⟩:=kB2 hg hB hb4 hb6;refine k8 _ _ ?_;refine wp_seq_k fun K11 k12=>?_;refine qr fun K13 k14=>?_;refine s1 ha rfl (mv rfl) ?_;intro a ha;refine k14 _ _ ?_;refine wp_block ?_;refine loopG (fun(k:Nat) a w=>(k≤25)∧Has 28 [(1,.pointer (some ⟨b4,0,none⟩)),(2,.pointer (some ⟨b6,0,none⟩)),(3,.pointer (some ⟨b10,0,none⟩)),(7,en k)] a∧Below w0.heap.size w0 w∧w.heap[b4]?=some (.cells ((l).map e64).toArray 26 (0,0))∧w.heap[b6]?=some (.cells ((List.replicate 25 (0:UInt64)).map e64).toArray 26 (0,0))∧w.heap[b10]?=some (.cells ((piA l k).map e64).toArray 26 (0,0))) (fun k=>25 - k) 0 ⟨(by omega),ha.to [1,2,3,7] rfl,hB,hb4,hb6,hb10⟩ ?_;clear ha a hB hb4 hb6 hb10;intro k a w15 ⟨hkk,ha,hB,hb4,hb6,hb10⟩;refine qr fun K16 k17=>?_;refine s1 ha rfl (fun _ ha=>r_lss ha ((k:Nat):Int) 25 (decide (k<25)) rfl rfl (dD (by omega))) ?_;intro a ha;refine k17 _ _ ?_;refine wp_seq_k fun K18 k19=>?_;refine cond_if ha rfl (fun hc20=>?_) (fun hc20=>?_)
 ·skip
  have hc20:=dT hc20;refine wp_skip ?_;refine k19 _ _ ?_;refine wp_seq_k fun K21 k22=>?_;refine wp_block ?_;refine qr fun K23 k24=>?_;refine s2 ha rfl (mv rfl) (av rfl) ?_;intro a ha;refine k24 _ _ ?_;refine qr fun K25 k26=>?_;refine s6 ha rfl (mv rfl) (fun _ ha=>rn_rem ha k 5 rfl rfl (by omega)) (mv rfl) (fun _ ha=>rn_quo ha k 5 rfl rfl (by omega) (by omega)) (av rfl) (av rfl) ?_;intro a ha;refine k26 _ _ ?_;refine region ?_;refine s6 ha rfl (mv rfl) (mv rfl) (mv rfl) (fun _ ha=>rn_mul ha 3 (k / 5) rfl rfl (by omega)) (fun _ ha=>rn_add ha (k % 5) (3*(k / 5)) rfl rfl (by omega)) (fun _ ha=>rn_rem ha ((k % 5)+(3*(k / 5))) 5 rfl rfl (by omega)) ?_;intro a ha;refine s6 ha rfl (mv rfl) (fun _ ha=>rn_mul ha 5 (k % 5) rfl rfl (by omega)) (fun _ ha=>rn_add ha (((k % 5)+(3*(k / 5))) % 5) (5*(k % 5)) rfl rfl (by omega)) (fun _ ha=>r_indexArr (i:=(((k % 5)+(3*(k / 5))) % 5)+(5*(k % 5))) ha ((((k % 5)+(3*(k / 5))) % 5)+(5*(k % 5))) Tryd.runUnderlying26 Tryd.sizeOf25 rfl rfl (by omega) (by omega)) (fun _ ha=>r_load ha rfl Tryd.isAgg25 (cell_of hb4 (get_map e64 l 0 ((((k % 5)+(3*(k / 5))) % 5)+(5*(k % 5))) (by rw[hl];omega)))) (fun _ ha=>r_indexArr (i:=k) ha k Tryd.runUnderlying26 Tryd.sizeOf25 rfl rfl (by omega) (by omega)) ?_;intro a ha;refine sstore ha (v:=e64 (l.getD ((((k % 5)+(3*(k / 5))) % 5)+(5*(k % 5))) 0)) rfl rfl rfl rfl Tryd.sizeOf25 hb10 (by rw[lM,piA_len];omega) ?_;intro a w27 ha hg hb10';rw[set_map] at hb10';have hb10:=hb10';have hB:=keepB1 hg (by omega) hB;have hb4:=keepO1 hg (by omega) hb4;have hb6:=keepO1 hg (by omega) hb6;refine k22 _ _ ?_;refine region ?_;refine s2 ha rfl (fun _ ha=>rn_add ha k 1 rfl rfl (by omega)) (mv rfl) ?_;intro a ha;exact⟨k+1,by omega,(by omega),ha.to [1,2,3,7] rfl,hB,hb4,hb6,hb10⟩
 ·skip
  have hc20:=dF hc20;refine wp_exit ?_;obtain rfl:k=25:=by omega
  refine k12 _ _ ?_;refine qr fun K28 k29=>?_;refine s1 ha rfl (fun _ ha=>r_loadR ha rfl Tryd.isAgg26 Tryd.sizeOf26 (C:=(piA l 25).map e64) (by rw[lM,piA_len]) (cells_all hb10)) ?_;intro a ha;refine sstoreW ha rfl rfl (one_e64 _) Tryd.sizeOf26 (by rw[lM,piA_len]) hb6 (by rw[lM,lR]) ?_;intro a w30 ha hg hb6';have hb6:=hb6';have hB:=keepB1 hg (by omega) hB;have hb10:=keepO1 hg (by omega) hb10;refine k29 _ _ ?_;refine wp_ret ?_;exact retC _ ha Tryd.results68 rfl hb6 Tryd.underlying26 rfl (by rw[lM,piA_len];kernel_rfl) ⟨rfl,hB⟩

theorem c_chi (l:List UInt64) (w0:World) (hl:l.length=25):
    Calls Tryd.prog 67 #[.agg ((l).map e64).toArray] w0 fun e w'=>e=.returned (.agg ((chi l).map e64).toArray)∧Below w0.heap.size w0 w':=by
 refine enter (args:=[_]) Tryd.func67 rfl Tryd.ntmps67 rfl ?_;intro a ha;have hB:=Below.refl w0.heap.size w0;refine qr fun K1 k2=>?_;refine sbox ha rfl rfl ?_;intro a w3 b4 ha hg hb4 hge4 hlt4;have hz4:=bz hB hge4;have hB:=keepB0 hg hB;refine salloc ha zero_26K1 rfl ?_;intro a w5 b6 ha hg hb6 hge6 hlt6;have hz6:=bz hB hge6;have hq4_6:=bl hb4 hge6;have⟨hB,hb4⟩:=kB1 hg hB hb4;refine k2 _ _ ?_;refine qr fun K7 k8=>?_;refine s1 ha rfl (fun _ ha=>r_loadR ha rfl Tryd.isAgg26 Tryd.sizeOf26 (C:=(l).map e64) (by rw[lM,hl]) (cells_all hb4)) ?_;intro a ha;refine salloc ha zero_26K1 rfl ?_;intro a w9 b10 ha hg hb10 hge10 hlt10;have hz10:=bz hB hge10;have hq4_10:=bl hb4 hge10;have hq6_10:=bl hb6 hge10;have⟨hB,hb4,hb6⟩:=kB2 hg hB hb4 hb6;refine sstoreW ha rfl rfl (one_e64 _) Tryd.sizeOf26 (by rw[lM,hl]) hb10 (by rw[lM,lR]) ?_;intro a w11 ha hg hb10';have hb10:=hb10';have hB:=keepB1 hg (by omega) hB;have hb4:=keepO1 hg (by omega) hb4;have hb6:=keepO1 hg (by omega) hb6;refine k8 _ _ ?_;refine wp_seq_k fun K12 k13=>?_;refine qr fun K14 k15=>?_;refine s1 ha rfl (mv rfl) ?_;intro a ha;refine k15 _ _ ?_;refine wp_block ?_;refine loopG (fun(k:Nat) a w=>(k≤25)∧Has 39 [(1,.pointer (some ⟨b4,0,none⟩)),(2,.pointer (some ⟨b6,0,none⟩)),(3,.pointer (some ⟨b10,0,none⟩)),(8,en k)] a∧Below w0.heap.size w0 w∧w.heap[b4]?=some (.cells ((l).map e64).toArray 26 (0,0))∧w.heap[b6]?=some (.cells ((List.replicate 25 (0:UInt64)).map e64).toArray 26 (0,0))∧w.heap[b10]?=some (.cells ((chiA l k).map e64).toArray 26 (0,0))) (fun k=>25 - k) 0 ⟨(by omega),ha.to [1,2,3,8] rfl,hB,hb4,hb6,hb10⟩ ?_;clear ha a hB hb4 hb6 hb10;intro k a w16 ⟨hkk,ha,hB,hb4,hb6,hb10⟩;refine qr fun K17 k18=>?_;refine s1 ha rfl (fun _ ha=>r_lss ha ((k:Nat):Int) 25 (decide (k<25)) rfl rfl (dD (by omega))) ?_;intro a ha;refine k18 _ _ ?_;refine wp_seq_k fun K19 k20=>?_;refine cond_if ha rfl (fun hc21=>?_) (fun hc21=>?_)
 ·skip
  have hc21:=dT hc21;refine wp_skip ?_;refine k20 _ _ ?_;refine wp_seq_k fun K22 k23=>?_;refine wp_block ?_;refine qr fun K24 k25=>?_;refine s2 ha rfl (mv rfl) (av rfl) ?_;intro a ha;refine k25 _ _ ?_;refine qr fun K26 k27=>?_;refine s6 ha rfl (mv rfl) (fun _ ha=>rn_rem ha k 5 rfl rfl (by omega)) (mv rfl) (mv rfl) (fun _ ha=>rn_rem ha k 5 rfl rfl (by omega)) (fun _ ha=>rn_sub ha k (k % 5) rfl rfl (by omega) (by omega)) ?_;intro a ha;refine s2 ha rfl (av rfl) (av rfl) ?_;intro a ha;refine k27 _ _ ?_;refine regionD (S:=fun w=>Below w0.heap.size w0 w∧w.heap[b4]?=some (.cells ((l).map e64).toArray 26 (0,0))∧w.heap[b6]?=some (.cells ((List.replicate 25 (0:UInt64)).map e64).toArray 26 (0,0))∧w.heap[b10]?=some (.cells ((chiA l k).map e64).toArray 26 (0,0))∧True) [20] [0,1,2,3,4,5,6,7,8,9,10,11,12,13,14,15,16,17,18,19] [0,1,2,3,4,5,6,7,8,9,10,11,12,13,14,15,16,17,18,19,20] mixed (by kernel_rfl) (fun w hg=>⟨keepB0 hg hB,keepO0 hg hb4,keepO0 hg hb6,keepO0 hg hb10,trivial⟩) ?_;intro w28 hg;have⟨hB,hb4,hb6,hb10⟩:=kB3 hg hB hb4 hb6 hb10;refine c6 ha rfl (cmv rfl) (fun w _ _ ha=>r_indexArr (i:=k) ha k Tryd.runUnderlying26 Tryd.sizeOf25 rfl rfl (by omega) (by omega)) (fun w ⟨_,_,_,hb10,_⟩ _ ha=>r_load ha rfl Tryd.isAgg25 (cell_of hb10 (get_map e64 (chiA l k) 0 k (by rw[chiA_len,hl];omega)))) (cmv rfl) (cmv rfl) (fun w _ _ ha=>rn_add ha (k % 5) 2 rfl rfl (by omega)) ?_;intro a ha;refine c6 ha rfl (fun w _ _ ha=>rn_rem ha ((k % 5)+2) 5 rfl rfl (by omega)) (fun w _ _ ha=>rn_add ha (k - (k % 5)) (((k % 5)+2) % 5) rfl rfl (by omega)) (fun w _ _ ha=>r_indexArr (i:=(k - (k % 5))+(((k % 5)+2) % 5)) ha ((k - (k % 5))+(((k % 5)+2) % 5)) Tryd.runUnderlying26 Tryd.sizeOf25 rfl rfl (by omega) (by omega)) (fun w ⟨_,hb4,_⟩ _ ha=>r_load ha rfl Tryd.isAgg25 (cell_of hb4 (get_map e64 l 0 ((k - (k % 5))+(((k % 5)+2) % 5)) (by rw[hl];omega)))) (cmv rfl) (cmv rfl) ?_;intro a ha;refine c6 ha rfl (fun w _ _ ha=>rn_add ha (k % 5) 1 rfl rfl (by omega)) (fun w _ _ ha=>rn_rem ha ((k % 5)+1) 5 rfl rfl (by omega)) (fun w _ _ ha=>rn_add ha (k - (k % 5)) (((k % 5)+1) % 5) rfl rfl (by omega)) (fun w _ _ ha=>r_indexArr (i:=(k - (k % 5))+(((k % 5)+1) % 5)) ha ((k - (k % 5))+(((k % 5)+1) % 5)) Tryd.runUnderlying26 Tryd.sizeOf25 rfl rfl (by omega) (by omega)) (fun w ⟨_,hb4,_⟩ _ ha=>r_load ha rfl Tryd.isAgg25 (cell_of hb4 (get_map e64 l 0 ((k - (k % 5))+(((k % 5)+1) % 5)) (by rw[hl];omega)))) (fun w _ _ ha=>ru_andNot ha (l.getD ((k - (k % 5))+(((k % 5)+2) % 5)) 0) (l.getD ((k - (k % 5))+(((k % 5)+1) % 5)) 0) rfl rfl) ?_;intro a ha;refine c2 ha rfl (fun w _ _ ha=>ru_xor ha ((chiA l k).getD k 0) ((l.getD ((k - (k % 5))+(((k % 5)+2) % 5)) 0)&&& ~~~(l.getD ((k - (k % 5))+(((k % 5)+1) % 5)) 0)) rfl rfl) (fun w _ _ ha=>r_indexArr (i:=k) ha k Tryd.runUnderlying26 Tryd.sizeOf25 rfl rfl (by omega) (by omega)) ?_;intro a ha;refine cstore ha rfl rfl (v:=e64 (((chiA l k).getD k 0)^^^((l.getD ((k - (k % 5))+(((k % 5)+2) % 5)) 0)&&& ~~~(l.getD ((k - (k % 5))+(((k % 5)+1) % 5)) 0)))) rfl rfl rfl rfl Tryd.sizeOf25 hb10 (by rw[lM,chiA_len,hl];omega) rfl ?_;intro a w29 ha hg hb10';rw[set_map] at hb10';have hb10:=hb10';have hB:=keepB1 hg (by omega) hB;have hb4:=keepO1 hg (by omega) hb4;have hb6:=keepO1 hg (by omega) hb6;refine cfin (k23 _ _ ?_);refine region ?_;refine s2 ha rfl (fun _ ha=>rn_add ha k 1 rfl rfl (by omega)) (mv rfl) ?_;intro a ha;exact⟨k+1,by omega,(by omega),ha.to [1,2,3,8] rfl,hB,hb4,hb6,hb10⟩
 ·skip
  have hc21:=dF hc21;refine wp_exit ?_;obtain rfl:k=25:=by omega
  refine k13 _ _ ?_;refine qr fun K30 k31=>?_;refine s1 ha rfl (fun _ ha=>r_loadR ha rfl Tryd.isAgg26 Tryd.sizeOf26 (C:=(chiA l 25).map e64) (by rw[lM,chiA_len,hl]) (cells_all hb10)) ?_;intro a ha;refine sstoreW ha rfl rfl (one_e64 _) Tryd.sizeOf26 (by rw[lM,chiA_len,hl]) hb6 (by rw[lM,lR]) ?_;intro a w32 ha hg hb6';have hb6:=hb6';have hB:=keepB1 hg (by omega) hB;have hb10:=keepO1 hg (by omega) hb10;refine k31 _ _ ?_;refine wp_ret ?_;exact retC _ ha Tryd.results67 rfl hb6 Tryd.underlying26 rfl (by rw[lM,chiA_len,hl];kernel_rfl) ⟨rfl,hB⟩

theorem c_iota (l:List UInt64) (k:Nat) (w0:World) (hl:l.length=25) (hk:k<24) (hG:Glob w0):
    Calls Tryd.prog 66 #[.agg ((l).map e64).toArray,en k] w0 fun e w'=>e=.returned (.agg ((iota l k).map e64).toArray)∧Below w0.heap.size w0 w':=by
 refine enter (args:=[_,_]) Tryd.func66 rfl Tryd.ntmps66 rfl ?_;intro a ha;have hB:=Below.refl w0.heap.size w0;refine qr fun K1 k2=>?_;refine sbox ha rfl rfl ?_;intro a w3 b4 ha hg hb4 hge4 hlt4;have hz4:=bz hB hge4;have hB:=keepB0 hg hB;refine salloc ha zero_26K1 rfl ?_;intro a w5 b6 ha hg hb6 hge6 hlt6;have hz6:=bz hB hge6;have hq4_6:=bl hb4 hge6;have⟨hB,hb4⟩:=kB1 hg hB hb4;refine k2 _ _ ?_;refine wp_seq_k fun K7 k8=>?_;refine qr fun K9 k10=>?_;refine s3 ha rfl (mv rfl) (fun _ ha=>r_geq ha ((k:Nat):Int) 0 true rfl rfl (decide_eq_true (by omega))) (mv rfl) ?_;intro a ha;refine svg ha (r_move ha rfl) rfl rfl rfl rfl rfl ?_;intro a ha;refine svg ha (r_lss ha ((k:Nat):Int) 24 true rfl rfl (decide_eq_true (by omega))) rfl rfl rfl rfl rfl ?_;intro a ha;refine s1 ha rfl (fun _ ha=>r_pick ha true rfl rfl) ?_;intro a ha;refine k10 _ _ ?_;refine cond_t ha rfl ?_;refine regionD (S:=fun w=>Below w0.heap.size w0 w∧w.heap[b4]?=some (.cells ((l).map e64).toArray 26 (0,0))∧w.heap[b6]?=some (.cells ((List.replicate 25 (0:UInt64)).map e64).toArray 26 (0,0))∧True) [7] [0,1,2,3,4,5,6] [0,1,2,3,4,5,6,7] mixed (by kernel_rfl) (fun w hg=>⟨keepB0 hg hB,keepO0 hg hb4,keepO0 hg hb6,trivial⟩) ?_;intro w11 hg;have⟨hB,hb4,hb6⟩:=kB2 hg hB hb4 hb6;refine c6 ha rfl (fun w _ _ ha=>r_indexArr (i:=0) ha 0 Tryd.runUnderlying26 Tryd.sizeOf25 rfl rfl (by omega) (by omega)) (fun w ⟨_,hb4,_⟩ _ ha=>r_load ha rfl Tryd.isAgg25 (cell_of hb4 (get_map e64 l 0 0 (by rw[hl];omega)))) (cmv rfl) (fun w _ _ ha=>r_indexArr (i:=k) ha k Tryd.runUnderlying71 Tryd.sizeOf25 rfl rfl (by omega) (by omega)) (fun w ⟨hB,_⟩ _ ha=>r_load ha rfl Tryd.isAgg25 (cell_glob (glob_0 hG hB) (get_map e64 consts 0 k (show _<24 by omega)))) (fun w _ _ ha=>ru_xor ha (l.getD 0 0) (consts.getD k 0) rfl rfl) ?_;intro a ha;refine c1 ha rfl (fun w _ _ ha=>r_indexArr (i:=0) ha 0 Tryd.runUnderlying26 Tryd.sizeOf25 rfl rfl (by omega) (by omega)) ?_;intro a ha;refine cstore ha rfl rfl (v:=e64 ((l.getD 0 0)^^^(consts.getD k 0))) rfl rfl rfl rfl Tryd.sizeOf25 hb4 (by rw[lM,hl];omega) rfl ?_;intro a w12 ha hg hb4';rw[set_map] at hb4';have hb4:=hb4';have hB:=keepB1 hg (by omega) hB;have hb6:=keepO1 hg (by omega) hb6;refine cfin (k8 _ _ ?_);refine qr fun K13 k14=>?_;refine s1 ha rfl (fun _ ha=>r_loadR ha rfl Tryd.isAgg26 Tryd.sizeOf26 (C:=(l.set 0 ((l.getD 0 0)^^^(consts.getD k 0))).map e64) (by rw[lM,List.length_set,hl]) (cells_all hb4)) ?_;intro a ha;refine sstoreW ha rfl rfl (one_e64 _) Tryd.sizeOf26 (by rw[lM,List.length_set,hl]) hb6 (by rw[lM,lR]) ?_;intro a w15 ha hg hb6';have hb6:=hb6';have hB:=keepB1 hg (by omega) hB;have hb4:=keepO1 hg (by omega) hb4;refine k14 _ _ ?_;refine wp_ret ?_;exact retC _ ha Tryd.results66 rfl hb6 Tryd.underlying26 rfl (by rw[lM,List.length_set,hl];kernel_rfl) ⟨rfl,hB⟩

theorem c_round (l:List UInt64) (k:Nat) (w0:World) (hl:l.length=25) (hk:k<24) (hG:Glob w0):
    Calls Tryd.prog 58 #[.agg ((l).map e64).toArray,en k] w0 fun e w'=>e=.returned (.agg ((kround l k).map e64).toArray)∧Below w0.heap.size w0 w':=by
 refine enter (args:=[_,_]) Tryd.func58 rfl Tryd.ntmps58 rfl ?_;intro a ha;have hB:=Below.refl w0.heap.size w0;refine qr fun K1 k2=>?_;refine sbox ha rfl rfl ?_;intro a w3 b4 ha hg hb4 hge4 hlt4;have hz4:=bz hB hge4;have hB:=keepB0 hg hB;refine salloc ha zero_26K1 rfl ?_;intro a w5 b6 ha hg hb6 hge6 hlt6;have hz6:=bz hB hge6;have hq4_6:=bl hb4 hge6;have⟨hB,hb4⟩:=kB1 hg hB hb4;refine k2 _ _ ?_;refine wp_seq_k fun K7 k8=>?_;refine qr fun K9 k10=>?_;refine sv ha (r_build0 zero_26K1 Tryd.runUnderlying26 Tryd.sizeOf25) rfl rfl rfl ?_;intro a ha;refine s1 ha rfl (mv rfl) ?_;intro a ha;refine scp ha (r_call ha [_,_] rfl Tryd.call66) rfl rfl rfl (c_iota (List.replicate 25 (0:UInt64)) k _ (by rw[lR]) (by omega) (glob_keep hG hB)) ?_;intro w11 hg a ha;have⟨hB,hb4,hb6⟩:=kB2 hg hB hb4 hb6;refine sv ha (r_build0 zero_26K1 Tryd.runUnderlying26 Tryd.sizeOf25) rfl rfl rfl ?_;intro a ha;refine s1 ha rfl (fun _ ha=>r_eqA (f:=(fun z:UInt64=>(z.toNat:Int))) (inj64) (iota (List.replicate 25 (0:UInt64)) k) (List.replicate 25 (0:UInt64)) ha rfl rfl (by rw[iota_len,lR]) (by rw[lR]) Tryd.eqGuardType26 Tryd.runUnderlying26 Tryd.sizeOf25 Tryd.underlying25 Tryd.isAgg25 false (decide_eq_false (iota_zero k hk))) ?_;intro a ha;refine k10 _ _ ?_;refine cond_f ha rfl ?_;refine wp_skip ?_;refine k8 _ _ ?_;refine qr fun K12 k13=>?_;refine s1 ha rfl (fun _ ha=>r_loadR ha rfl Tryd.isAgg26 Tryd.sizeOf26 (C:=(l).map e64) (by rw[lM,hl]) (cells_all hb4)) ?_;intro a ha;refine scp ha (r_call ha [_] rfl Tryd.call70) rfl rfl rfl (c_theta l _ (by rw[hl])) ?_;intro w14 hg a ha;have⟨hB,hb6⟩:=kB1 hg hB hb6;refine scp ha (r_call ha [_] rfl Tryd.call69) rfl rfl rfl (c_rho (theta l) _ (by rw[theta_len,hl]) (glob_keep hG hB)) ?_;intro w15 hg a ha;have⟨hB,hb6⟩:=kB1 hg hB hb6;refine scp ha (r_call ha [_] rfl Tryd.call68) rfl rfl rfl (c_pi (rho (theta l)) _ (by rw[rho_len,theta_len,hl])) ?_;intro w16 hg a ha;have⟨hB,hb6⟩:=kB1 hg hB hb6;refine scp ha (r_call ha [_] rfl Tryd.call67) rfl rfl rfl (c_chi (pi (rho (theta l))) _ (by rw[pi_len])) ?_;intro w17 hg a ha;have⟨hB,hb6⟩:=kB1 hg hB hb6;refine s1 ha rfl (mv rfl) ?_;intro a ha;refine scp ha (r_call ha [_,_] rfl Tryd.call66) rfl rfl rfl (c_iota (chi (pi (rho (theta l)))) k _ (by rw[chi_len,pi_len]) (by omega) (glob_keep hG hB)) ?_;intro w18 hg a ha;have⟨hB,hb6⟩:=kB1 hg hB hb6;refine sstoreW ha rfl rfl (one_e64 _) Tryd.sizeOf26 (by rw[lM,iota_len,chi_len,pi_len]) hb6 (by rw[lM,lR]) ?_;intro a w19 ha hg hb6';have hb6:=hb6';have hB:=keepB1 hg (by omega) hB;refine k13 _ _ ?_;refine wp_ret ?_;exact retC _ ha Tryd.results58 rfl hb6 Tryd.underlying26 rfl (by rw[lM,iota_len,chi_len,pi_len];kernel_rfl) ⟨rfl,hB⟩

theorem c_kf (l:List UInt64) (w0:World) (hl:l.length=25) (hG:Glob w0):
    Calls Tryd.prog 45 #[.agg ((l).map e64).toArray] w0 fun e w'=>e=.returned (.agg ((kf l).map e64).toArray)∧Below w0.heap.size w0 w':=by
 refine enter (args:=[_]) Tryd.func45 rfl Tryd.ntmps45 rfl ?_;intro a ha;have hB:=Below.refl w0.heap.size w0;refine qr fun K1 k2=>?_;refine sbox ha rfl rfl ?_;intro a w3 b4 ha hg hb4 hge4 hlt4;have hz4:=bz hB hge4;have hB:=keepB0 hg hB;refine salloc ha zero_26K1 rfl ?_;intro a w5 b6 ha hg hb6 hge6 hlt6;have hz6:=bz hB hge6;have hq4_6:=bl hb4 hge6;have⟨hB,hb4⟩:=kB1 hg hB hb4;refine k2 _ _ ?_;refine wp_seq_k fun K7 k8=>?_;refine qr fun K9 k10=>?_;refine s1 ha rfl (mv rfl) ?_;intro a ha;refine k10 _ _ ?_;refine wp_block ?_;refine loopG (fun(k:Nat) a w=>(k≤24)∧Has 12 [(1,.pointer (some ⟨b4,0,none⟩)),(2,.pointer (some ⟨b6,0,none⟩)),(4,en k)] a∧Below w0.heap.size w0 w∧w.heap[b4]?=some (.cells ((kfA l k).map e64).toArray 26 (0,0))∧w.heap[b6]?=some (.cells ((List.replicate 25 (0:UInt64)).map e64).toArray 26 (0,0))) (fun k=>24 - k) 0 ⟨(by omega),ha.to [1,2,4] rfl,hB,hb4,hb6⟩ ?_;clear ha a hB hb4 hb6;intro k a w11 ⟨hkk,ha,hB,hb4,hb6⟩;refine qr fun K12 k13=>?_;refine s1 ha rfl (fun _ ha=>r_lss ha ((k:Nat):Int) 24 (decide (k<24)) rfl rfl (dD (by omega))) ?_;intro a ha;refine k13 _ _ ?_;refine wp_seq_k fun K14 k15=>?_;refine cond_if ha rfl (fun hc16=>?_) (fun hc16=>?_)
 ·skip
  have hc16:=dT hc16;refine wp_skip ?_;refine k15 _ _ ?_;refine wp_seq_k fun K17 k18=>?_;refine wp_block ?_;refine qr fun K19 k20=>?_;refine s2 ha rfl (mv rfl) (av rfl) ?_;intro a ha;refine k20 _ _ ?_;refine region ?_;refine s2 ha rfl (fun _ ha=>r_loadR ha rfl Tryd.isAgg26 Tryd.sizeOf26 (C:=(kfA l k).map e64) (by rw[lM,kfA_len l hl]) (cells_all hb4)) (mv rfl) ?_;intro a ha;refine scp ha (r_call ha [_,_] rfl Tryd.call58) rfl rfl rfl (c_round (kfA l k) k _ (by rw[kfA_len l hl]) (by omega) (glob_keep hG hB)) ?_;intro w21 hg a ha;have⟨hB,hb4,hb6⟩:=kB2 hg hB hb4 hb6;refine sstoreW ha rfl rfl (one_e64 _) Tryd.sizeOf26 (by rw[lM,kround_len]) hb4 (by rw[lM,kfA_len l hl]) ?_;intro a w22 ha hg hb4';have hb4:=hb4';have hB:=keepB1 hg (by omega) hB;have hb6:=keepO1 hg (by omega) hb6;refine k18 _ _ ?_;refine region ?_;refine s2 ha rfl (fun _ ha=>rn_add ha k 1 rfl rfl (by omega)) (mv rfl) ?_;intro a ha;exact⟨k+1,by omega,(by omega),ha.to [1,2,4] rfl,hB,hb4,hb6⟩
 ·skip
  have hc16:=dF hc16;refine wp_exit ?_;obtain rfl:k=24:=by omega
  refine k8 _ _ ?_;refine qr fun K23 k24=>?_;refine s1 ha rfl (fun _ ha=>r_loadR ha rfl Tryd.isAgg26 Tryd.sizeOf26 (C:=(kfA l 24).map e64) (by rw[lM,kfA_len l hl]) (cells_all hb4)) ?_;intro a ha;refine sstoreW ha rfl rfl (one_e64 _) Tryd.sizeOf26 (by rw[lM,kfA_len l hl]) hb6 (by rw[lM,lR]) ?_;intro a w25 ha hg hb6';have hb6:=hb6';have hB:=keepB1 hg (by omega) hB;have hb4:=keepO1 hg (by omega) hb4;refine k24 _ _ ?_;refine wp_ret ?_;exact retC _ ha Tryd.results45 rfl hb6 Tryd.underlying26 rfl (by rw[lM,kfA_len l hl];kernel_rfl) ⟨rfl,hB⟩
end Go.Proofs.YtdhgkfmniebghaaDoor

/- Plain functions: the document's answer for the permutation as its text reckons it (bit by bit, and lane by lane). No program and no memory here. -/
namespace Go.Rx

def bitI (l:List UInt64) (x y z:Int):Nat:=((l.getD (((x+10) % 5).toNat+5*((y+10) % 5).toNat) 0 >>> UInt64.ofNat ((z+128) % 64).toNat)&&&1).toNat
/-! ### The rounds' constants by a shift register -/
def rc0 (r:List Nat):List Nat:=[0]++r
def rc1 (r:List Nat):List Nat:=(rc0 r).set 0 (((rc0 r).getD 0 0+(rc0 r).getD 8 0) % 2)
def rc2 (r:List Nat):List Nat:=(rc1 r).set 4 (((rc1 r).getD 4 0+(rc1 r).getD 8 0) % 2)
def rc3 (r:List Nat):List Nat:=(rc2 r).set 5 (((rc2 r).getD 5 0+(rc2 r).getD 8 0) % 2)
def rc4 (r:List Nat):List Nat:=(rc3 r).set 6 (((rc3 r).getD 6 0+(rc3 r).getD 8 0) % 2)
def rcL:Nat→List Nat
  | 0=>[1,0,0,0,0,0,0,0]
  | k+1=>(rc4 (rcL k)).take 8
def rcv (t:Nat):Nat:=(rcL (t % 255)).getD 0 0

/-! ### Lane by lane -/
end Go.Rx

/- Plain law of layer 2: the program's permutation is the document's, bit by bit and lane by lane. -/
namespace Go.Rx

/-! ### Bits -/
/-! ### Theta -/
/-! ### Rho -/
/-! ### Pi -/
/-! ### Chi -/
/-! ### Iota -/
/-! ### Lane by lane -/
end Go.Rx

/- WALKS written by gen.py (own program) out of specs. -/
namespace Go.Proofs.YtdhgkfmniebghaaDoor
open Go.RowKit Go.Rx
set_option maxRecDepth 100000
set_option maxHeartbeats 4000000
set_option linter.unusedVariables false
set_option linter.unusedSimpArgs false

end Go.Proofs.YtdhgkfmniebghaaDoor

/- The operations of the calculus: strings, fields, stores through owned slices, literals of slices of slices, words' greatest and least. -/
namespace Go.Rx
open Go.RowKit

/-- The string of bytes. -/
def strOf (l:List UInt8):ByteArray:=⟨l.toArray⟩
theorem strOf_toList (l:List UInt8):(strOf l).toList=l:=by rw[ByteArray.toList_eq];rfl
section
variable {P:Program} {n:Nat} {env:Env} {a:Act} {w0 w w':World} {dst:Option Tmp} {ty:TypeId} {pos:String} {af:Array Edge} {g:Option (Nat × Bool)} {x y z:Operand} {t t':TypeId} {v u:Value}
variable {ops:Array Oper} {Q:Exit→Act→World→Prop} {rest:List Oper} {d:Nat} {S:World→Prop} {T:List Nat} {m i:Nat} {st r:List Nat}

theorem r_str (ha:Has n env a) {src dt e:TypeId} {l:List UInt8} (hs:P.underlying src=some (.slice e)) (he:P.underlying e=some (.int .u8)) (hd:P.underlying dt=some .string) (hx:ev env x=some v) (hsl:Sl w v (l.map e8)):
    (execOp a.eval ⟨dst,.convert src dt x,ty,pos,af,g⟩).run P w=.ok (.value (.string (strOf l))) w:=by
  have hc:(convert src dt v).run P w=.ok (.string (strOf l)) w:=by
    obtain⟨b,cap,hv,hcap,hb,hn⟩:=hsl;rw[lM] at hv;subst hv
    cases b with
    | none=>
      have h0:=(hn rfl).1;have:l=[]:=by simpa using h0
      subst this;rw[run_convert_bytes_nil w src e hs he _ _ dt hd];rfl
    | some q=>
      obtain⟨q1,q2,q3⟩:=hb q rfl;exact run_convert_bytes_back w src dt e q cap l hs he hd fun j hj=>by
        have hq:q=⟨q.block,q.off,none⟩:=by cases q;simp only at q1;subst q1;rfl
        rw[hq,add_zero'];exact q3 j _ (by simp[List.getElem?_eq_getElem hj])
  simp only[execOp,ha.ev hx,Sem.run_bind,hc,Result.andThen_ok];rfl

theorem r_eqlS (ha:Has n env a) (l k:List UInt8) (c:Bool) (hx:ev env x=some (.string (strOf l))) (hy:ev env y=some (.string (strOf k))) (hc:decide (l=k)=c):
    (execOp a.eval ⟨dst,.binOp .eql t x y t',ty,pos,af,g⟩).run P w=.ok (.value (.bool c)) w:=by
  subst hc;have h:(l==k)=decide (l=k):=by rw[Bool.eq_iff_iff];simp
  simp[execOp,ha.ev hx,ha.ev hy,eqGuard,binOp,Op.stringOp,strOf_toList];exact h
theorem v_of {s:Sem Next} {p q:Value} (h:s.run P w=.ok (.value p) w) (e:p=q):s.run P w=.ok (.value q) w:=e ▸ h
/-! ### Carrying on -/
theorem ne_of_ap {b:Nat} (h:∀ j,v.ownBlock=some j→j≠b):v.ownBlock≠some b:=fun e=>h b e rfl
theorem Sl.castM {α:Type} {f:α→Value} {l l':List α} (h:Sl w v (l.map f)) (e:l=l'):Sl w v (l'.map f):=e ▸ h
theorem own_len {α:Type} {f:α→Value} {l:List α} {base e k:Nat} (h:w.ownsRow base e 1 v k (l.map f)):w.ownsRow base e 1 v l.length (l.map f):=by
  have:k=l.length:=by have:=h.1;rw[lM] at this;omega
  subst this;exact h
theorem own_castl {α:Type} {f:α→Value} {l l':List α} {base e:Nat} (h:w.ownsRow base e 1 v l.length (l.map f)) (el:l=l'):w.ownsRow base e 1 v l'.length (l'.map f):=el ▸ h
theorem own_row {base e k:Nat} {C:List Value} (h:w.ownsRow base e 1 v k C):∀ j,v.ownBlock=some j→base≤j:=fun j hj=>(h.lt j hj).1
theorem Sl.one {C:List Value} (h:Sl w v C):v.cells= #[v]:=by obtain⟨b,c,hv,_⟩:=h;rw[hv];rfl
theorem fill2 {z v1 v2:Value} (h1:v1.cells= #[v1]) (h2:v2.cells= #[v2]):Instr.fill (fun i=>some (i*1,1)) (List.replicate 2 z).toArray [(0,v1),(1,v2)]=some [v1,v2].toArray:=by simp[Instr.fill,h1,h2,List.replicate]
/-- Rows told one by one. -/
inductive Rows8 (w:World):List Value→List (List UInt8)→Prop
  | nil:Rows8 w [] []
  | cons {v:Value} {l:List UInt8} {vs:List Value} {ls:List (List UInt8)}:Sl w v (l.map e8)→Rows8 w vs ls→Rows8 w (v::vs) (l::ls)
theorem Rows8.len {vs:List Value} {ls:List (List UInt8)} (h:Rows8 w vs ls):vs.length=ls.length:=by induction h with
  | nil=>rfl
  | cons _ _ ih=>simp[ih]
theorem Rows8.get {vs:List Value} {ls:List (List UInt8)} (h:Rows8 w vs ls):∀ i,i<ls.length→∃ v,vs[i]?=some v∧Sl w v ((ls.getD i []).map e8):=by
  induction h with
  | nil=>intro i hi;simp at hi
  | @cons v l vs ls h1 h2 ih=>
    intro i hi
    cases i with
    | zero=>exact⟨v,rfl,h1⟩
    | succ i=>
      obtain⟨u,hu,hs⟩:=ih i (by simpa using hi);exact⟨u,by simpa using hu,by simpa using hs⟩
theorem flat_take (ls:List (List UInt8)) (k:Nat) (h:k<ls.length):(ls.take (k+1)).flatten=(ls.take k).flatten++ls.getD k []:=by
  rw[List.take_succ_eq_append_getElem h,List.flatten_append];simp only[List.flatten_cons,List.flatten_nil,List.append_nil,List.getD,List.getElem?_eq_getElem h,Option.getD_some]

theorem flat_le (ls:List (List UInt8)) (k:Nat) (h:k<ls.length):((ls.take k).flatten).length+(ls.getD k []).length≤ls.flatten.length:=by
  rw[← lA,← flat_take ls k h];have:ls.flatten=(ls.take (k+1)).flatten++(ls.drop (k+1)).flatten:=by rw[← List.flatten_append,List.take_append_drop]
  rw[this,lA];omega
/-! ### Words -/
end
end Go.Rx

/- Plain functions: words out of bytes, bytes out of words, the sponge as the program reckons it. -/
namespace Go.Rx
def ldA (b:List UInt8):Nat→UInt64
  | 0=>0
  | k+1=>ldA b k|||((b.getD k 0).toUInt64 <<< UInt64.ofNat (8*k))
def ld8 (b:List UInt8):UInt64:=ldA b (min b.length 8)
def stA (x:UInt64):Nat→List UInt8
  | 0=>List.replicate 8 0
  | k+1=>(stA x k).set k (x >>> UInt64.ofNat (8*k)).toUInt8
theorem stA_len (x:UInt64):∀ k,(stA x k).length=8
  | 0=>lR
  | k+1=>by rw[stA,List.length_set];exact stA_len x k
def st8 (x:UInt64):List UInt8:=stA x 8
theorem st8_len (x:UInt64):(st8 x).length=8:=stA_len x 8
theorem ext_getD {α:Type} (d:α) (a b:List α) (h:a.length=b.length) (hg:∀ i,i<a.length→a.getD i d=b.getD i d):a=b:=by
  apply List.ext_getElem h;intro i h1 h2;have:=hg i h1;simpa[List.getD,List.getElem?_eq_getElem h1,List.getElem?_eq_getElem h2] using this
def layA (a:List UInt64) (b:List UInt8):Nat→List UInt64
  | 0=>a
  | k+1=>(layA a b k).set k ((layA a b k).getD k 0^^^ld8 ((b.drop (8*k)).take (min (8*k+8) b.length - 8*k)))
theorem layA_len (a:List UInt64) (b:List UInt8):∀ k,(layA a b k).length=a.length
  | 0=>rfl
  | k+1=>by rw[layA,List.length_set];exact layA_len a b k
def lay (a:List UInt64) (b:List UInt8):List UInt64:=layA a b ((b.length+7) / 8)
theorem lay_len (a:List UInt64) (b:List UInt8):(lay a b).length=a.length:=layA_len a b _
def tkA (a:List UInt64):Nat→List UInt8
  | 0=>[]
  | k+1=>tkA a k++st8 (a.getD k 0)
theorem tkA_len (a:List UInt64):∀ k,(tkA a k).length=8*k
  | 0=>rfl
  | k+1=>by rw[tkA,lA,tkA_len a k,st8_len];omega
def tk (a:List UInt64) (n:Nat):List UInt8:=(tkA a 25).take n
theorem tk_len (a:List UInt64) (n:Nat) (h:n≤200):(tk a n).length=n:=by rw[tk,List.length_take,tkA_len];omega

def padB (r:Nat) (l:List UInt8):List UInt8:=l.take r++(List.replicate r (0:UInt8)).drop (l.take r).length
theorem padB_len (r:Nat) (l:List UInt8):(padB r l).length=r:=by
  simp only[padB,lA,List.length_take,List.length_drop,lR];omega
def lastB (r:Nat) (s:UInt8) (l:List UInt8):List UInt8:=
  ((padB r l).set l.length ((padB r l).getD l.length 0^^^s)).set (r - 1) (((padB r l).set l.length ((padB r l).getD l.length 0^^^s)).getD (r - 1) 0^^^128)
theorem lastB_len (r:Nat) (s:UInt8) (l:List UInt8):(lastB r s l).length=r:=by rw[lastB,List.length_set,List.length_set,padB_len]
def absF (r:Nat) (s:UInt8):Nat→List UInt64→List UInt8→List UInt64
  | 0,a,l=>kf (lay a (lastB r s l))
  | n+1,a,l=>if r≤l.length then absF r s n (kf (lay a (l.take r))) (l.drop r) else kf (lay a (lastB r s l))
theorem absF_more (r:Nat) (s:UInt8) (hr:1≤r):∀ (n m:Nat) (a:List UInt64) (l:List UInt8),l.length≤n→l.length≤m→absF r s n a l=absF r s m a l
  | 0,0,a,l,_,_=>rfl
  | 0,m+1,a,l,h,_=>by rw[absF,absF,if_neg (by omega)]
  | n+1,0,a,l,_,h=>by rw[absF,absF,if_neg (by omega)]
  | n+1,m+1,a,l,h1,h2=>by
    rw[absF,absF]
    split
    · exact absF_more r s hr n m _ _ (by rw[List.length_drop];omega) (by rw[List.length_drop];omega)
    · rfl
def absR (r:Nat) (s:UInt8) (a:List UInt64) (l:List UInt8):List UInt64:=absF r s l.length a l
theorem absR_step (r:Nat) (s:UInt8) (a:List UInt64) (l:List UInt8) (hr:1≤r) (h:r≤l.length):absR r s a l=absR r s (kf (lay a (l.take r))) (l.drop r):=by
  unfold absR;rw[absF_more r s hr l.length (l.length+1) a l (Nat.le_refl _) (by omega),absF,if_pos h];exact absF_more r s hr _ _ _ _ (by rw[List.length_drop];omega) (Nat.le_refl _)
theorem absR_end (r:Nat) (s:UInt8) (a:List UInt64) (l:List UInt8) (hr:1≤r) (h:¬r≤l.length):absR r s a l=kf (lay a (lastB r s l)):=by
  unfold absR;rw[absF_more r s hr l.length (l.length+1) a l (Nat.le_refl _) (by omega),absF,if_neg h]
abbrev noughts:List UInt64:=List.replicate 25 0
theorem absF_len (r:Nat) (s:UInt8):∀ (n:Nat) (a:List UInt64) (l:List UInt8),a.length=25→(absF r s n a l).length=25
  | 0,a,l,h=>kf_len _ (by rw[lay_len,h])
  | n+1,a,l,h=>by
    rw[absF];split
    · exact absF_len r s n _ _ (kf_len _ (by rw[lay_len,h]))
    · exact kf_len _ (by rw[lay_len,h])
theorem absR_len (r:Nat) (s:UInt8) (l:List UInt8):(absR r s noughts l).length=25:=absF_len r s _ _ _ lR
def sum256 (b:List UInt8):List UInt8:=tk (absR 136 6 noughts b) 32
theorem sum256_len (b:List UInt8):(sum256 b).length=32:=tk_len _ _ (by omega)
end Go.Rx

/- WALKS written by gen.py (own program) out of specs. -/
namespace Go.Proofs.YtdhgkfmniebghaaDoor
open Go.RowKit Go.Rx
set_option maxRecDepth 100000
set_option maxHeartbeats 4000000
set_option linter.unusedVariables false
set_option linter.unusedSimpArgs false

theorem c_load (v:Value) (b:List UInt8) (w0:World) (hs:Sl w0 v (b.map e8)):
    Calls Tryd.prog 59 #[v] w0 fun e w'=>e=.returned (e64 (ld8 b))∧Below w0.heap.size w0 w':=by
 refine enter (args:=[_]) Tryd.func59 rfl Tryd.ntmps59 rfl ?_;intro a ha;have hB:=Below.refl w0.heap.size w0;refine qr fun K1 k2=>?_;refine s1 ha rfl (av rfl) ?_;intro a ha;refine k2 _ _ ?_;refine qr fun K3 k4=>?_;refine s1 ha rfl (av rfl) ?_;intro a ha;refine k4 _ _ ?_;refine wp_seq_k fun K5 k6=>?_;refine qr fun K7 k8=>?_;refine s4 ha rfl (mv rfl) (fun _ ha=>r_lenS ha Tryd.runUnderlying22 (hs.below hB) rfl (by rw[lM])) (fun _ ha=>rn_min ha b.length 8 rfl rfl) (mv rfl) ?_;intro a ha;refine k8 _ _ ?_;refine wp_block ?_;refine loopG (fun(k:Nat) a w=>(k≤(min b.length 8))∧Has 24 [(0,v),(7,en (min b.length 8)),(3,e64 (ldA b k)),(8,en k)] a∧Below w0.heap.size w0 w) (fun k=>(min b.length 8) - k) 0 ⟨(by omega),ha.to [0,7,3,8] rfl,hB⟩ ?_;clear ha a hB;intro k a w9 ⟨hkk,ha,hB⟩;refine qr fun K10 k11=>?_;refine s1 ha rfl (fun _ ha=>r_lss ha ((k:Nat):Int) ((min b.length 8:Nat):Int) (decide (k<min b.length 8)) rfl rfl (dD (by omega))) ?_;intro a ha;refine k11 _ _ ?_;refine wp_seq_k fun K12 k13=>?_;refine cond_if ha rfl (fun hc14=>?_) (fun hc14=>?_)
 ·skip
  have hc14:=dT hc14;refine wp_skip ?_;refine k13 _ _ ?_;refine wp_seq_k fun K15 k16=>?_;refine wp_block ?_;refine qr fun K17 k18=>?_;refine s2 ha rfl (mv rfl) (av rfl) ?_;intro a ha;refine k18 _ _ ?_;refine region ?_;refine s6 ha rfl (mv rfl) (mv rfl) (mv rfl) (fun _ ha=>r_indexS (i:=k) ha Tryd.runUnderlying22 Tryd.sizeOf5 (hs.below hB) (C:=(b).map e8) rfl rfl (by rw[lM];omega)) (fun _ ha=>r_loadS ha rfl Tryd.isAgg5 (hs.below hB) (get_map e8 b 0 k (by omega))) (fun _ ha=>r_conv_u8_u64 ha (b.getD k 0) Tryd.runUnderlying5 Tryd.runUnderlying25 rfl) ?_;intro a ha;refine s6 ha rfl (mv rfl) (fun _ ha=>rn_mul ha 8 k rfl rfl (by omega)) (fun _ ha=>r_conv_n_u64 ha (8*k) Tryd.runUnderlying3 Tryd.runUnderlying77 rfl (by omega)) (fun _ ha=>ru_shl ha ((b.getD k 0).toUInt64) (8*k) rfl rfl (by omega)) (fun _ ha=>ru_or ha (ldA b k) (((b.getD k 0).toUInt64) <<< UInt64.ofNat (8*k)) rfl rfl) (av rfl) ?_;intro a ha;refine k16 _ _ ?_;refine region ?_;refine s2 ha rfl (fun _ ha=>rn_add ha k 1 rfl rfl (by omega)) (mv rfl) ?_;intro a ha;exact⟨k+1,by omega,(by omega),ha.to [0,7,3,8] rfl,hB⟩
 ·skip
  have hc14:=dF hc14;refine wp_exit ?_;obtain rfl:k=(min b.length 8):=by omega
  refine k6 _ _ ?_;refine qr fun K19 k20=>?_;refine s2 ha rfl (mv rfl) (av rfl) ?_;intro a ha;refine k20 _ _ ?_;refine wp_ret ?_;exact ret1 ha Tryd.results59 rfl ⟨rfl,hB⟩

theorem c_store (x:UInt64) (w0:World):
    Calls Tryd.prog 55 #[e64 x,en 8] w0 fun e w'=>∃ b,e=.returned (.slice (some ⟨b,0,none⟩) 8 8)∧Below w0.heap.size w0 w'∧w'.heap[b]?=some (.cells ((st8 x).map e8).toArray 5 (0,0))∧w0.heap.size≤b:=by
 refine enter (args:=[_,_]) Tryd.func55 rfl Tryd.ntmps55 rfl ?_;intro a ha;have hB:=Below.refl w0.heap.size w0;refine qr fun K1 k2=>?_;refine s1 ha rfl (av rfl) ?_;intro a ha;refine k2 _ _ ?_;refine qr fun K3 k4=>?_;refine s3 ha rfl (mv rfl) (fun _ ha=>rn_max ha 8 0 rfl rfl) (fun _ ha=>v_of (rn_min ha (max 8 0) 8 rfl rfl) (congrArg en (rfl:min (max 8 0) 8=8))) ?_;intro a ha;refine smake (k:=8) ha rfl rfl Tryd.underlying22 rfl rfl rfl rfl (show 1*_≤_ by omega) (by omega) rfl ?_;intro a w5 b6 ha hg hb6 hge6 hlt6;have hz6:=bz hB hge6;have hB:=keepB0 hg hB;rw[show(List.replicate 8 (Value.int .u8 0))=(List.replicate 8 (0:UInt8)).map e8 by rw[List.map_replicate];rfl] at hb6;refine s1 ha rfl (av rfl) ?_;intro a ha;refine k4 _ _ ?_;refine wp_seq_k fun K7 k8=>?_;refine qr fun K9 k10=>?_;refine s3 ha rfl (mv rfl) (fun _ ha=>r_lenB ha Tryd.runUnderlying22 rfl) (mv rfl) ?_;intro a ha;refine k10 _ _ ?_;refine wp_block ?_;refine loopG (fun(k:Nat) a w=>(k≤8)∧Has 27 [(0,e64 x),(5,.slice (some ⟨b6,0,none⟩) 8 8),(12,en 8),(13,en k)] a∧Below w0.heap.size w0 w∧w.heap[b6]?=some (.cells ((stA x k).map e8).toArray 5 (0,0))) (fun k=>8 - k) 0 ⟨(by omega),ha.to [0,5,12,13] rfl,hB,hb6⟩ ?_;clear ha a hB hb6;intro k a w11 ⟨hkk,ha,hB,hb6⟩;refine qr fun K12 k13=>?_;refine s1 ha rfl (fun _ ha=>r_lss ha ((k:Nat):Int) ((8:Nat):Int) (decide (k<8)) rfl rfl (dD (by omega))) ?_;intro a ha;refine k13 _ _ ?_;refine wp_seq_k fun K14 k15=>?_;refine cond_if ha rfl (fun hc16=>?_) (fun hc16=>?_)
 ·skip
  have hc16:=dT hc16;refine wp_skip ?_;refine k15 _ _ ?_;refine wp_seq_k fun K17 k18=>?_;refine wp_block ?_;refine qr fun K19 k20=>?_;refine s2 ha rfl (mv rfl) (av rfl) ?_;intro a ha;refine k20 _ _ ?_;refine region ?_;refine s6 ha rfl (mv rfl) (mv rfl) (mv rfl) (mv rfl) (fun _ ha=>rn_mul ha 8 k rfl rfl (by omega)) (fun _ ha=>r_conv_n_u64 ha (8*k) Tryd.runUnderlying3 Tryd.runUnderlying77 rfl (by omega)) ?_;intro a ha;refine s3 ha rfl (fun _ ha=>ru_shr ha x (8*k) rfl rfl (by omega)) (fun _ ha=>r_conv_u64_u8 ha (x >>> UInt64.ofNat (8*k)) Tryd.runUnderlying25 Tryd.runUnderlying5 rfl) (fun _ ha=>r_indexB ha k Tryd.runUnderlying22 Tryd.sizeOf5 rfl rfl (by omega)) ?_;intro a ha;refine sstore ha (v:=e8 ((x >>> UInt64.ofNat (8*k)).toUInt8)) rfl rfl rfl rfl Tryd.sizeOf5 hb6 (by rw[lM,stA_len];omega) ?_;intro a w21 ha hg hb6';rw[set_map] at hb6';have hb6:=hb6';have hB:=keepB1 hg (by omega) hB;refine k18 _ _ ?_;refine region ?_;refine s2 ha rfl (fun _ ha=>rn_add ha k 1 rfl rfl (by omega)) (mv rfl) ?_;intro a ha;exact⟨k+1,by omega,(by omega),ha.to [0,5,12,13] rfl,hB,hb6⟩
 ·skip
  have hc16:=dF hc16;refine wp_exit ?_;obtain rfl:k=8:=by omega
  refine k8 _ _ ?_;refine qr fun K22 k23=>?_;refine s2 ha rfl (mv rfl) (av rfl) ?_;intro a ha;refine k23 _ _ ?_;refine wp_ret ?_;exact ret1 ha Tryd.results55 rfl ⟨_,rfl,hB,hb6,hz6⟩

theorem c_join (v:Value) (vs:List Value) (ls:List (List UInt8)) (w0:World) (hjv:Sl w0 v vs) (hsv:Rows8 w0 vs ls) (hb:ls.flatten.length≤140737488355328) (hc:ls.length≤1000):
    Calls Tryd.prog 53 #[v] w0 fun e w'=>∃ u0:Value,e=.returned (u0)∧Below w0.heap.size w0 w'∧Sl w' u0 ((ls.flatten).map e8)∧(∀ j,u0.ownBlock=some j→w0.heap.size≤j):=by
 refine enter (args:=[_]) Tryd.func53 rfl Tryd.ntmps53 rfl ?_;intro a ha;have hB:=Below.refl w0.heap.size w0;refine qr fun K1 k2=>?_;refine s1 ha rfl (av rfl) ?_;intro a ha;refine k2 _ _ ?_;refine qr fun K3 k4=>?_;refine s1 ha rfl (av rfl) ?_;intro a ha;refine k4 _ _ ?_;refine wp_seq_k fun K5 k6=>?_;refine qr fun K7 k8=>?_;refine s3 ha rfl (mv rfl) (fun _ ha=>r_lenS ha Tryd.runUnderlying76 (hjv.below hB) rfl hsv.len) (mv rfl) ?_;intro a ha;refine k8 _ _ ?_;refine wp_block ?_;refine loopG (fun(k:Nat) a w=>∃ vo:Value,(k≤ls.length)∧Has 17 [(6,v),(7,en ls.length),(8,en k),(3,vo)] a∧Below w0.heap.size w0 w∧w.ownsRow w0.heap.size 5 1 vo ((ls.take k).flatten).length (((ls.take k).flatten).map e8)) (fun k=>ls.length - k) 0 ⟨.slice none 0 0,(by omega),ha.to [6,7,8,3] rfl,hB,(own_castl (l:=([]:List UInt8)) (World.ownsRow_nil _ _ _ _) (by rw[List.take_zero];rfl))⟩ ?_;clear ha a hB;intro k a w9 ⟨vo,hkk,ha,hB,hovo⟩;refine qr fun K10 k11=>?_;refine s1 ha rfl (fun _ ha=>r_lss ha ((k:Nat):Int) ((ls.length:Nat):Int) (decide (k<ls.length)) rfl rfl (dD (by omega))) ?_;intro a ha;refine k11 _ _ ?_;refine wp_seq_k fun K12 k13=>?_;refine cond_if ha rfl (fun hc14=>?_) (fun hc14=>?_)
 ·skip
  have hc14:=dT hc14;refine wp_skip ?_;refine k13 _ _ ?_;refine wp_seq_k fun K15 k16=>?_;refine wp_block ?_;refine qr fun K17 k18=>?_;refine s1 ha rfl (fun _ ha=>r_indexS (i:=k) ha Tryd.runUnderlying76 Tryd.sizeOf22 (hjv.below hB) (C:=vs) rfl rfl (by rw[hsv.len];omega)) ?_;intro a ha;obtain⟨x19,hx19,hs19⟩:=hsv.get k (by omega);refine s2 ha rfl (fun _ ha=>r_loadS ha rfl Tryd.isAgg22 (hjv.below hB) hx19) (av rfl) ?_;intro a ha;refine k18 _ _ ?_;refine region ?_;refine s2 ha rfl (mv rfl) (mv rfl) ?_;intro a ha;refine sapp (C:=(((ls.take k).flatten)).map e8) (D:=(ls.getD k []).map e8) ha rfl rfl Tryd.underlying22 rfl rfl rfl rfl hovo (hs19.below hB) (one_e8 _) (by have:=flat_le ls k (by omega);simp only[lM];show _*1≤_;omega) (by have:=flat_le ls k (by omega);simp only[lM];omega) hB.size rfl ?_;intro a w21 v20 ha hg ho20 hnl20 hpl20;rw[← List.map_append,lM] at ho20;have hB:=keepBR hg (own_row hovo) hB;refine s1 ha rfl (av rfl) ?_;intro a ha;refine k16 _ _ ?_;refine region ?_;refine s2 ha rfl (fun _ ha=>rn_add ha k 1 rfl rfl (by omega)) (mv rfl) ?_;intro a ha;exact⟨k+1,by omega,v20,(by omega),ha.to [6,7,8,3] rfl,hB,(own_castl (own_len ho20) (flat_take ls k (by omega)).symm)⟩
 ·skip
  have hc14:=dF hc14;refine wp_exit ?_;obtain rfl:k=ls.length:=by omega
  refine k6 _ _ ?_;refine qr fun K22 k23=>?_;refine s2 ha rfl (mv rfl) (av rfl) ?_;intro a ha;refine k23 _ _ ?_;refine wp_ret ?_;exact ret1 ha Tryd.results53 rfl ⟨_,rfl,hB,(Sl.castM (l:=(ls.take ls.length).flatten) (Sl.ofOwns hovo) (by rw[List.take_length])),(own_row hovo)⟩
end Go.Proofs.YtdhgkfmniebghaaDoor

/- WALKS written by gen.py (own program) out of specs. -/
namespace Go.Proofs.YtdhgkfmniebghaaDoor
open Go.RowKit Go.Rx
set_option maxRecDepth 100000
set_option maxHeartbeats 4000000
set_option linter.unusedVariables false
set_option linter.unusedSimpArgs false

theorem zero_26Q2:∀ w,(zeroValue 26).run Tryd.prog w=.ok (.agg ((List.replicate 25 (0:UInt64)).map e64).toArray) w:=fun _=>by kernel_rfl
theorem c_lay (p:List UInt64) (v:Value) (b:List UInt8) (w0:World) (hl:p.length=25) (hs:Sl w0 v (b.map e8)) (hb:b.length≤200):
    Calls Tryd.prog 46 #[.agg ((p).map e64).toArray,v] w0 fun e w'=>e=.returned (.agg ((lay p b).map e64).toArray)∧Below w0.heap.size w0 w':=by
 refine enter (args:=[_,_]) Tryd.func46 rfl Tryd.ntmps46 rfl ?_;intro a ha;have hB:=Below.refl w0.heap.size w0;refine qr fun K1 k2=>?_;refine sbox ha rfl rfl ?_;intro a w3 b4 ha hg hb4 hge4 hlt4;have hz4:=bz hB hge4;have hB:=keepB0 hg hB;refine salloc ha zero_26Q2 rfl ?_;intro a w5 b6 ha hg hb6 hge6 hlt6;have hz6:=bz hB hge6;have hq4_6:=bl hb4 hge6;have⟨hB,hb4⟩:=kB1 hg hB hb4;refine k2 _ _ ?_;refine wp_seq_k fun K7 k8=>?_;refine qr fun K9 k10=>?_;refine s5 ha rfl (mv rfl) (fun _ ha=>r_lenS ha Tryd.runUnderlying22 (hs.below hB) rfl (by rw[lM])) (fun _ ha=>rn_add ha b.length 7 rfl rfl (by omega)) (fun _ ha=>rn_quo ha (b.length+7) 8 rfl rfl (by omega) (by omega)) (mv rfl) ?_;intro a ha;refine k10 _ _ ?_;refine wp_block ?_;refine loopG (fun(k:Nat) a w=>(k≤((b.length+7) / 8))∧Has 31 [(1,v),(2,.pointer (some ⟨b4,0,none⟩)),(4,.pointer (some ⟨b6,0,none⟩)),(9,en ((b.length+7) / 8)),(10,en k)] a∧Below w0.heap.size w0 w∧w.heap[b4]?=some (.cells ((layA p b k).map e64).toArray 26 (0,0))∧w.heap[b6]?=some (.cells ((List.replicate 25 (0:UInt64)).map e64).toArray 26 (0,0))) (fun k=>((b.length+7) / 8) - k) 0 ⟨(by omega),ha.to [1,2,4,9,10] rfl,hB,hb4,hb6⟩ ?_;clear ha a hB hb4 hb6;intro k a w11 ⟨hkk,ha,hB,hb4,hb6⟩;refine qr fun K12 k13=>?_;refine s1 ha rfl (fun _ ha=>r_lss ha ((k:Nat):Int) (((b.length+7) / 8:Nat):Int) (decide (k<(b.length+7) / 8)) rfl rfl (dD (by omega))) ?_;intro a ha;refine k13 _ _ ?_;refine wp_seq_k fun K14 k15=>?_;refine cond_if ha rfl (fun hc16=>?_) (fun hc16=>?_)
 ·skip
  have hc16:=dT hc16;refine wp_skip ?_;refine k15 _ _ ?_;refine wp_seq_k fun K17 k18=>?_;refine wp_block ?_;refine qr fun K19 k20=>?_;refine s2 ha rfl (mv rfl) (av rfl) ?_;intro a ha;refine k20 _ _ ?_;refine regionD (S:=fun w=>Below w0.heap.size w0 w∧w.heap[b4]?=some (.cells ((layA p b k).map e64).toArray 26 (0,0))∧w.heap[b6]?=some (.cells ((List.replicate 25 (0:UInt64)).map e64).toArray 26 (0,0))∧True) [16] [0,1,2,3,4,5,6,7,8,9,10,11,12,14,15] [0,1,2,3,4,5,6,7,8,9,10,11,12,13,14,15,16] mixed (by kernel_rfl) (fun w hg=>⟨keepB0 hg hB,keepO0 hg hb4,keepO0 hg hb6,trivial⟩) ?_;intro w21 hg;have⟨hB,hb4,hb6⟩:=kB2 hg hB hb4 hb6;refine c6 ha rfl (cmv rfl) (fun w _ _ ha=>r_indexArr (i:=k) ha k Tryd.runUnderlying26 Tryd.sizeOf25 rfl rfl (by omega) (by omega)) (fun w ⟨_,hb4,_⟩ _ ha=>r_load ha rfl Tryd.isAgg25 (cell_of hb4 (get_map e64 (layA p b k) 0 k (by rw[layA_len,hl];omega)))) (cmv rfl) (cmv rfl) (fun w _ _ ha=>rn_mul ha 8 k rfl rfl (by omega)) ?_;intro a ha;refine c6 ha rfl (cmv rfl) (fun w _ _ ha=>rn_mul ha 8 k rfl rfl (by omega)) (fun w _ _ ha=>rn_add ha (8*k) 8 rfl rfl (by omega)) (cmv rfl) (fun w ⟨hB,_⟩ _ ha=>r_lenS ha Tryd.runUnderlying22 (hs.below hB) rfl (by rw[lM])) (fun w _ _ ha=>rn_min ha ((8*k)+8) b.length rfl rfl) ?_;intro a ha;refine c1 ha rfl (fun w ⟨hB,_⟩ _ ha=>r_resl (C:=(b).map e8) ha (8*k) (min ((8*k)+8) b.length) Tryd.runUnderlying22 Tryd.sizeOf5 (hs.below hB) rfl rfl rfl (by omega) (by rw[lM];exact(by omega))) ?_;intro a ha;refine cc ha rfl rfl (r_call ha [_] rfl Tryd.call59) rfl rfl rfl (c_load (rsl v (8*k) (min ((8*k)+8) b.length)) ((b.drop (8*k)).take ((min ((8*k)+8) b.length) - (8*k))) _ (Sl.cutM (lo:=8*k) (hi:=min ((8*k)+8) b.length) (hs.below hB) (by omega) (by omega))) ?_;rintro e w22 ⟨rfl,hBc⟩;have hg:=grown_call hBc;have⟨hB,hb4,hb6⟩:=kB2 hg hB hb4 hb6;refine⟨fun _=>⟨hB,hb4,hb6,trivial⟩,_,rfl,?_⟩;intro a ha;refine c2 ha rfl (fun w _ _ ha=>ru_xor ha ((layA p b k).getD k 0) (ld8 ((b.drop (8*k)).take ((min ((8*k)+8) b.length) - (8*k)))) rfl rfl) (fun w _ _ ha=>r_indexArr (i:=k) ha k Tryd.runUnderlying26 Tryd.sizeOf25 rfl rfl (by omega) (by omega)) ?_;intro a ha;refine cstore ha rfl rfl (v:=e64 (((layA p b k).getD k 0)^^^(ld8 ((b.drop (8*k)).take ((min ((8*k)+8) b.length) - (8*k)))))) rfl rfl rfl rfl Tryd.sizeOf25 hb4 (by rw[lM,layA_len,hl];omega) rfl ?_;intro a w23 ha hg hb4';rw[set_map] at hb4';have hb4:=hb4';have hB:=keepB1 hg (by omega) hB;have hb6:=keepO1 hg (by omega) hb6;refine cfin (k18 _ _ ?_);refine region ?_;refine s2 ha rfl (fun _ ha=>rn_add ha k 1 rfl rfl (by omega)) (mv rfl) ?_;intro a ha;exact⟨k+1,by omega,(by omega),ha.to [1,2,4,9,10] rfl,hB,hb4,hb6⟩
 ·skip
  have hc16:=dF hc16;refine wp_exit ?_;obtain rfl:k=((b.length+7) / 8):=by omega
  refine k8 _ _ ?_;refine qr fun K24 k25=>?_;refine s1 ha rfl (fun _ ha=>r_loadR ha rfl Tryd.isAgg26 Tryd.sizeOf26 (C:=(layA p b ((b.length+7) / 8)).map e64) (by rw[lM,layA_len,hl]) (cells_all hb4)) ?_;intro a ha;refine sstoreW ha rfl rfl (one_e64 _) Tryd.sizeOf26 (by rw[lM,layA_len,hl]) hb6 (by rw[lM,lR]) ?_;intro a w26 ha hg hb6';have hb6:=hb6';have hB:=keepB1 hg (by omega) hB;have hb4:=keepO1 hg (by omega) hb4;refine k25 _ _ ?_;refine wp_ret ?_;exact retC _ ha Tryd.results46 rfl hb6 Tryd.underlying26 rfl (by rw[lM,layA_len,hl];kernel_rfl) ⟨rfl,hB⟩

theorem c_take (p:List UInt64) (n:Nat) (w0:World) (hl:p.length=25) (hn:n≤200):
    Calls Tryd.prog 50 #[.agg ((p).map e64).toArray,en n] w0 fun e w'=>∃ u0:Value,e=.returned (u0)∧Below w0.heap.size w0 w'∧Sl w' u0 ((tk p n).map e8)∧(∀ j,u0.ownBlock=some j→w0.heap.size≤j):=by
 refine enter (args:=[_,_]) Tryd.func50 rfl Tryd.ntmps50 rfl ?_;intro a ha;have hB:=Below.refl w0.heap.size w0;refine qr fun K1 k2=>?_;refine sbox ha rfl rfl ?_;intro a w3 b4 ha hg hb4 hge4 hlt4;have hz4:=bz hB hge4;have hB:=keepB0 hg hB;refine s1 ha rfl (av rfl) ?_;intro a ha;refine k2 _ _ ?_;refine qr fun K5 k6=>?_;refine s1 ha rfl (av rfl) ?_;intro a ha;refine k6 _ _ ?_;refine wp_seq_k fun K7 k8=>?_;refine qr fun K9 k10=>?_;refine s2 ha rfl (fun _ ha=>r_loadR ha rfl Tryd.isAgg26 Tryd.sizeOf26 (C:=(p).map e64) (by rw[lM,hl]) (cells_all hb4)) (mv rfl) ?_;intro a ha;refine k10 _ _ ?_;refine wp_block ?_;refine loopG (fun(k:Nat) a w=>∃ vo:Value,(k≤25)∧Has 20 [(1,en n),(8,.agg ((p).map e64).toArray),(9,en k),(5,vo)] a∧Below w0.heap.size w0 w∧w.ownsRow w0.heap.size 5 1 vo (tkA p k).length ((tkA p k).map e8)) (fun k=>25 - k) 0 ⟨.slice none 0 0,(by omega),ha.to [1,8,9,5] rfl,hB,(own_castl (l:=([]:List UInt8)) (World.ownsRow_nil _ _ _ _) rfl)⟩ ?_;clear ha a hB;intro k a w11 ⟨vo,hkk,ha,hB,hovo⟩;have htk:=tkA_len p k;refine qr fun K12 k13=>?_;refine s1 ha rfl (fun _ ha=>r_lss ha ((k:Nat):Int) 25 (decide (k<25)) rfl rfl (dD (by omega))) ?_;intro a ha;refine k13 _ _ ?_;refine wp_seq_k fun K14 k15=>?_;refine cond_if ha rfl (fun hc16=>?_) (fun hc16=>?_)
 ·skip
  have hc16:=dT hc16;refine wp_skip ?_;refine k15 _ _ ?_;refine wp_seq_k fun K17 k18=>?_;refine wp_block ?_;refine qr fun K19 k20=>?_;refine s2 ha rfl (fun _ ha=>r_index (C:=(p).map e64) ha k rfl rfl Tryd.runUnderlying26 Tryd.sizeOf25 Tryd.isAgg25 (by omega) (get_map e64 p 0 k (by rw[hl];omega))) (av rfl) ?_;intro a ha;refine k20 _ _ ?_;refine region ?_;refine s2 ha rfl (mv rfl) (mv rfl) ?_;intro a ha;refine sc ha (r_call ha [_,_] rfl Tryd.call55) rfl rfl rfl (c_store (p.getD k 0) _) ?_;rintro e w21 ⟨b22,rfl,hBc,hb22,hge22⟩;have hg:=grown_call hBc;have hz22:=bz hB hge22;have hne_hovo_b22:∀ j,Value.ownBlock vo=some j→j≠b22:=fun j hj=>by have:=(hovo.lt j hj).2;omega
  have hB:=keepB0 hg hB;have hovo:=keepW0 hg hovo;refine⟨_,rfl,?_⟩;intro a ha;refine sapp (C:=((tkA p k)).map e8) (D:=(st8 (p.getD k 0)).map e8) ha rfl rfl Tryd.underlying22 rfl rfl rfl rfl hovo (Sl.ofBlockM hb22 (by rw[st8_len]) (by omega)) (one_e8 _) (by simp only[lM,st8_len];show _*1≤_;omega) (by simp only[lM,st8_len];omega) hB.size rfl ?_;intro a w24 v23 ha hg ho23 hnl23 hpl23;rw[← List.map_append,lM,st8_len] at ho23;rw[lM,st8_len] at hnl23;have hne_23_b22:∀ j,v23.ownBlock=some j→j≠b22:=fun j hj=>(hpl23 j hj).elim (fun h=>hne_hovo_b22 j h) (fun h=>by have:=lt_of_block hb22;omega);have hB:=keepBR hg (own_row hovo) hB;have hb22:=keepOR hg (ne_of_ap hne_hovo_b22) hb22;refine s1 ha rfl (av rfl) ?_;intro a ha;refine k18 _ _ ?_;refine region ?_;refine s2 ha rfl (fun _ ha=>rn_add ha k 1 rfl rfl (by omega)) (mv rfl) ?_;intro a ha;exact⟨k+1,by omega,v23,(by omega),ha.to [1,8,9,5] rfl,hB,(own_castl (own_len ho23) rfl)⟩
 ·skip
  have hc16:=dF hc16;refine wp_exit ?_;obtain rfl:k=25:=by omega
  refine k8 _ _ ?_;refine qr fun K25 k26=>?_;refine s4 ha rfl (mv rfl) (mv rfl) (fun _ ha=>r_resl (C:=(tkA p 25).map e8) ha 0 n Tryd.runUnderlying22 Tryd.sizeOf5 (Sl.ofOwns hovo) rfl rfl rfl (by omega) (by rw[lM];exact(by have:=tkA_len p 25;omega))) (av rfl) ?_;intro a ha;refine k26 _ _ ?_;refine wp_ret ?_;exact ret1 ha Tryd.results50 rfl ⟨_,rfl,hB,(Sl.castM (l:=((tkA p 25).drop 0).take (n - 0)) (Sl.cutM (lo:=0) (hi:=n) (Sl.ofOwns hovo) (by omega) (by have:=tkA_len p 25;omega)) rfl),(fun j hj=>(own_row hovo) j (own_rsl _ _ j hj))⟩

theorem c_absN (r:Nat) (s:UInt8) (v:Value) (b:List UInt8) (w0:World) (hr:1≤r∧r≤200) (hs:Sl w0 v (b.map e8)) (hG:Glob w0):
    Calls Tryd.prog 19 #[en r,e8 s,v] w0 fun e w'=>e=.returned (.agg ((absR r s noughts b).map e64).toArray)∧Below w0.heap.size w0 w':=by
 refine enter (args:=[_,_,_]) Tryd.func19 rfl Tryd.ntmps19 rfl ?_;intro a ha;have hB:=Below.refl w0.heap.size w0;refine qr fun K1 k2=>?_;refine salloc ha zero_26Q2 rfl ?_;intro a w3 b4 ha hg hb4 hge4 hlt4;have hz4:=bz hB hge4;have hB:=keepB0 hg hB;refine k2 _ _ ?_;refine qr fun K5 k6=>?_;refine salloc ha zero_26Q2 rfl ?_;intro a w7 b8 ha hg hb8 hge8 hlt8;have hz8:=bz hB hge8;have hq4_8:=bl hb4 hge8;have⟨hB,hb4⟩:=kB1 hg hB hb4;refine k6 _ _ ?_;refine wp_seq_k fun K9 k10=>?_;refine qr fun K11 k12=>?_;refine s3 ha rfl (mv rfl) (fun _ ha=>r_lss ha ((r:Nat):Int) 1 false rfl rfl (decide_eq_false (by omega))) (mv rfl) ?_;intro a ha;refine svg ha (r_move ha rfl) rfl rfl rfl rfl rfl ?_;intro a ha;refine svg ha (r_gtr ha ((r:Nat):Int) 200 false rfl rfl (decide_eq_false (by omega))) rfl rfl rfl rfl rfl ?_;intro a ha;refine s1 ha rfl (fun _ ha=>r_pick ha false rfl rfl) ?_;intro a ha;refine k12 _ _ ?_;refine cond_f ha rfl ?_;refine wp_skip ?_;refine k10 _ _ ?_;refine wp_seq_k fun K13 k14=>?_;refine wp_block ?_;refine loopG (fun(g:List UInt64 × List UInt8) a w=>∃ vb:Value,(g.1.length=25)∧(absR r s noughts b=absR r s g.1 g.2)∧(∀ j,vb.ownBlock=some j→j<w0.heap.size)∧Has 53 [(0,en r),(1,e8 s),(6,.pointer (some ⟨b4,0,none⟩)),(7,.pointer (some ⟨b8,0,none⟩)),(2,vb)] a∧Below w0.heap.size w0 w∧w.heap[b4]?=some (.cells ((List.replicate 25 (0:UInt64)).map e64).toArray 26 (0,0))∧w.heap[b8]?=some (.cells ((g.1).map e64).toArray 26 (0,0))∧Sl w vb ((g.2).map e8)) (fun g=>g.2.length) (noughts,b) ⟨v,lR,rfl,(fun j hj=>hs.lt j hj),ha.to [0,1,6,7,2] rfl,hB,hb4,hb8,(Sl.castM (l:=b) (hs.below hB) rfl)⟩ ?_;clear ha a hB hb4 hb8;intro g a w15 ⟨vb,hga,hgb,hal_vb,ha,hB,hb4,hb8,hsb⟩;refine wp_seq_k fun K16 k17=>?_;refine qr fun K18 k19=>?_;refine s4 ha rfl (mv rfl) (fun _ ha=>r_lenS ha Tryd.runUnderlying22 hsb rfl (by rw[lM])) (mv rfl) (fun _ ha=>r_geq ha ((g.2.length:Nat):Int) ((r:Nat):Int) (decide (g.2.length≥r)) rfl rfl (dD (by omega))) ?_;intro a ha;refine k19 _ _ ?_;refine cond_if ha rfl (fun hc20=>?_) (fun hc20=>?_)
 ·skip
  have hc20:=dT hc20;refine wp_skip ?_;refine k17 _ _ ?_;refine wp_block ?_;refine wp_seq_k fun K21 k22=>?_;refine regionD (S:=fun w=>Below w0.heap.size w0 w∧w.heap[b4]?=some (.cells ((List.replicate 25 (0:UInt64)).map e64).toArray 26 (0,0))∧w.heap[b8]?=some (.cells ((g.1).map e64).toArray 26 (0,0))∧Sl w vb ((g.2).map e8)∧True) [6] [0,1,2,3] [0,1,2,3,4,5,6] mixed (by kernel_rfl) (fun w hg=>⟨keepB0 hg hB,keepO0 hg hb4,keepO0 hg hb8,keepS0 hg hsb,trivial⟩) ?_;intro w23 hg;have⟨hB,hb4,hb8⟩:=kB2 hg hB hb4 hb8;have hsb:=keepS0 hg hsb;refine c4 ha rfl (fun w ⟨_,_,hb8,_⟩ _ ha=>r_loadR ha rfl Tryd.isAgg26 Tryd.sizeOf26 (C:=(g.1).map e64) (by rw[lM,hga]) (cells_all hb8)) (cmv rfl) (cmv rfl) (fun w ⟨_,_,_,hsb,_⟩ _ ha=>r_resl (C:=(g.2).map e8) ha 0 r Tryd.runUnderlying22 Tryd.sizeOf5 hsb rfl rfl rfl (by omega) (by rw[lM];exact(by omega))) ?_;intro a ha;refine cc ha rfl rfl (r_call ha [_,_] rfl Tryd.call46) rfl rfl rfl (c_lay g.1 (rsl vb 0 r) (g.2.take r) _ (by rw[hga]) (Sl.castM (Sl.cutM (lo:=0) (hi:=r) hsb (by omega) (by omega)) rfl) (by rw[List.length_take];omega)) ?_;rintro e w24 ⟨rfl,hBc⟩;have hg:=grown_call hBc;have⟨hB,hb4,hb8⟩:=kB2 hg hB hb4 hb8;have hsb:=keepS0 hg hsb;refine⟨fun _=>⟨hB,hb4,hb8,hsb,trivial⟩,_,rfl,?_⟩;intro a ha;refine cc ha rfl rfl (r_call ha [_] rfl Tryd.call45) rfl rfl rfl (c_kf (lay g.1 (g.2.take r)) _ (by rw[lay_len,hga]) (glob_keep hG hB)) ?_;rintro e w25 ⟨rfl,hBc⟩;have hg:=grown_call hBc;have⟨hB,hb4,hb8⟩:=kB2 hg hB hb4 hb8;have hsb:=keepS0 hg hsb;refine⟨fun _=>⟨hB,hb4,hb8,hsb,trivial⟩,_,rfl,?_⟩;intro a ha;refine cstoreW ha rfl rfl rfl rfl (one_e64 _) Tryd.sizeOf26 (by rw[lM,kf_len _ (by rw[lay_len,hga])]) hb8 (by rw[lM,hga]) rfl ?_;intro a w26 ha hg hb8';have hb8:=hb8';have hB:=keepB1 hg (by omega) hB;have hb4:=keepO1 hg (by omega) hb4;have hsb:=keepS1 hg (ne_of_ap (fun j hj=>by have h1:=hal_vb j hj;have h2:=hz8;omega)) hsb;refine cfin (k22 _ _ ?_);refine region ?_;refine s4 ha rfl (mv rfl) (mv rfl) (fun _ ha=>r_resl (C:=(g.2).map e8) ha r g.2.length Tryd.runUnderlying22 Tryd.sizeOf5 hsb rfl rfl (show g.2.length=_ by rw[lM]) (by omega) (by rw[lM];exact(by omega))) (av rfl) ?_;intro a ha;have hkl:(kf (lay g.1 (g.2.take r))).length=25:=kf_len _ (by rw[lay_len,hga]);have hstep:=absR_step r s g.1 g.2 (by omega) (by omega);generalize kf (lay g.1 (g.2.take r))=a2 at*;exact⟨(a2,g.2.drop r),(by show(g.2.drop r).length<g.2.length;rw[List.length_drop];omega),rsl vb r g.2.length,hkl,(hgb.trans hstep),(fun j hj=>hal_vb j (own_rsl _ _ j hj)),ha.to [0,1,6,7,2] rfl,hB,hb4,hb8,(Sl.castM (l:=(g.2.drop r).take (g.2.length - r)) (Sl.cutM (lo:=r) (hi:=g.2.length) hsb (by omega) (by omega)) (List.take_of_length_le (by rw[List.length_drop];exact Nat.le_refl _)))⟩
 ·skip
  have hc20:=dF hc20;refine wp_exit ?_;refine k14 _ _ ?_;refine qr fun K27 k28=>?_;refine s1 ha rfl (mv rfl) ?_;intro a ha;refine smake (k:=r) ha rfl rfl Tryd.underlying22 rfl rfl rfl rfl (show 1*_≤_ by omega) (by omega) rfl ?_;intro a w29 b30 ha hg hb30 hge30 hlt30;have hz30:=bz hB hge30;have hne_hsb_b30:∀ j,Value.ownBlock vb=some j→j≠b30:=fun j hj=>by have:=hsb.lt j hj;omega
  have hq4_30:=bl hb4 hge30;have hq8_30:=bl hb8 hge30;have⟨hB,hb4,hb8⟩:=kB2 hg hB hb4 hb8;have hsb:=keepS0 hg hsb;rw[show(List.replicate r (Value.int .u8 0))=(List.replicate r (0:UInt8)).map e8 by rw[List.map_replicate];rfl] at hb30;refine s1 ha rfl (av rfl) ?_;intro a ha;refine k28 _ _ ?_;refine qr fun K31 k32=>?_;refine s2 ha rfl (mv rfl) (mv rfl) ?_;intro a ha;refine scopy (d:=33) (C:=(g.2).map e8) (p:=(g.2.take r).map e8) ha rfl rfl hsb Tryd.underlying22 rfl hb30 (by rw[List.map_take]) (by simp only[lM,List.length_take,lR];omega) (one_e8 _) ?_ rfl rfl rfl;intro a w33 ha hg hb30';rw[copy_map] at hb30';clear hb30;have hb30:w33.heap[b30]?=some (.cells ((padB r g.2).map e8).toArray 5 (0,0)):=hb30';clear hb30';have hB:=keepB1 hg (by omega) hB;have hb4:=keepO1 hg (by omega) hb4;have hb8:=keepO1 hg (by omega) hb8;have hsb:=keepS1 hg (ne_of_ap hne_hsb_b30) hsb;refine k32 _ _ ?_;refine qr fun K34 k35=>?_;refine s6 ha rfl (mv rfl) (mv rfl) (fun _ ha=>r_lenS ha Tryd.runUnderlying22 hsb rfl (by rw[lM])) (fun _ ha=>r_indexB ha g.2.length Tryd.runUnderlying22 Tryd.sizeOf5 rfl rfl (by omega)) (fun _ ha=>r_load ha rfl Tryd.isAgg5 (cell_of hb30 (get_map e8 (padB r g.2) 0 g.2.length (by rw[padB_len];omega)))) (mv rfl) ?_;intro a ha;refine s2 ha rfl (fun _ ha=>rb_xor ha ((padB r g.2).getD g.2.length 0) s rfl rfl) (fun _ ha=>r_indexB ha g.2.length Tryd.runUnderlying22 Tryd.sizeOf5 rfl rfl (by omega)) ?_;intro a ha;refine sstore ha (v:=e8 (((padB r g.2).getD g.2.length 0)^^^s)) rfl rfl rfl rfl Tryd.sizeOf5 hb30 (by rw[lM,padB_len];omega) ?_;intro a w36 ha hg hb30';rw[set_map] at hb30';have hb30:=hb30';have hB:=keepB1 hg (by omega) hB;have hb4:=keepO1 hg (by omega) hb4;have hb8:=keepO1 hg (by omega) hb8;have hsb:=keepS1 hg (ne_of_ap hne_hsb_b30) hsb;refine k35 _ _ ?_;refine qr fun K37 k38=>?_;refine s6 ha rfl (mv rfl) (mv rfl) (fun _ ha=>rn_sub ha r 1 rfl rfl (by omega) (by omega)) (fun _ ha=>r_indexB ha (r - 1) Tryd.runUnderlying22 Tryd.sizeOf5 rfl rfl (by omega)) (fun _ ha=>r_load ha rfl Tryd.isAgg5 (cell_of hb30 (get_map e8 ((padB r g.2).set g.2.length (((padB r g.2).getD g.2.length 0)^^^s)) 0 (r - 1) (by rw[List.length_set,padB_len];omega)))) (fun _ ha=>rb_xor ha (((padB r g.2).set g.2.length (((padB r g.2).getD g.2.length 0)^^^s)).getD (r - 1) 0) (128:UInt8) rfl rfl) ?_;intro a ha;refine s1 ha rfl (fun _ ha=>r_indexB ha (r - 1) Tryd.runUnderlying22 Tryd.sizeOf5 rfl rfl (by omega)) ?_;intro a ha;refine sstore ha (v:=e8 ((((padB r g.2).set g.2.length (((padB r g.2).getD g.2.length 0)^^^s)).getD (r - 1) 0)^^^(128:UInt8))) rfl rfl rfl rfl Tryd.sizeOf5 hb30 (by rw[lM,List.length_set,padB_len];omega) ?_;intro a w39 ha hg hb30';rw[set_map] at hb30';have hb30:=hb30';have hb30:w39.heap[b30]?=some (.cells ((lastB r s g.2).map e8).toArray 5 (0,0)):=hb30;have hB:=keepB1 hg (by omega) hB;have hb4:=keepO1 hg (by omega) hb4;have hb8:=keepO1 hg (by omega) hb8;refine k38 _ _ ?_;refine qr fun K40 k41=>?_;refine s2 ha rfl (fun _ ha=>r_loadR ha rfl Tryd.isAgg26 Tryd.sizeOf26 (C:=(g.1).map e64) (by rw[lM,hga]) (cells_all hb8)) (mv rfl) ?_;intro a ha;refine scp ha (r_call ha [_,_] rfl Tryd.call46) rfl rfl rfl (c_lay g.1 (.slice (some ⟨b30,0,none⟩) r r) (lastB r s g.2) _ (by rw[hga]) (Sl.ofBlockM hb30 (by rw[lastB_len]) (Nat.le_refl _)) (by rw[lastB_len];omega)) ?_;intro w42 hg a ha;have⟨hB,hb4⟩:=kB1 hg hB hb4;refine scp ha (r_call ha [_] rfl Tryd.call45) rfl rfl rfl (c_kf (lay g.1 (lastB r s g.2)) _ (by rw[lay_len,hga]) (glob_keep hG hB)) ?_;intro w43 hg a ha;have⟨hB,hb4⟩:=kB1 hg hB hb4;refine sstoreW ha rfl rfl (one_e64 _) Tryd.sizeOf26 (by rw[lM,kf_len _ (by rw[lay_len,hga])]) hb4 (by rw[lM,lR]) ?_;intro a w44 ha hg hb4';have hb4:=hb4';have hB:=keepB1 hg (by omega) hB;refine k41 _ _ ?_;refine wp_ret ?_;exact retC _ ha Tryd.results19 rfl hb4 Tryd.underlying26 rfl (by rw[lM,kf_len _ (by rw[lay_len,hga])];kernel_rfl) ⟨(by rw[hgb,absR_end _ _ _ _ (by omega) (by omega)]),hB⟩

theorem c_sum256 (v:Value) (b:List UInt8) (w0:World) (hs:Sl w0 v (b.map e8)) (hG:Glob w0):
    Calls Tryd.prog 21 #[v] w0 fun e w'=>∃ u0:Value,e=.returned (u0)∧Below w0.heap.size w0 w'∧Sl w' u0 ((sum256 b).map e8)∧(∀ j,u0.ownBlock=some j→w0.heap.size≤j):=by
 refine enter (args:=[_]) Tryd.func21 rfl Tryd.ntmps21 rfl ?_;intro a ha;have hB:=Below.refl w0.heap.size w0;refine qr fun K1 k2=>?_;refine s1 ha rfl (av rfl) ?_;intro a ha;refine k2 _ _ ?_;refine qr fun K3 k4=>?_;refine s1 ha rfl (mv rfl) ?_;intro a ha;refine scp ha (r_call ha [_,_,_] rfl Tryd.call19) rfl rfl rfl (c_absN 136 (6:UInt8) v b _ (by omega) (hs.below hB) (glob_keep hG hB)) ?_;intro w5 hg a ha;have hB:=keepB0 hg hB;refine sc ha (r_call ha [_,_] rfl Tryd.call50) rfl rfl rfl (c_take (absR 136 (6:UInt8) noughts b) 32 _ (by rw[absR_len]) (by omega)) ?_;rintro e w6 ⟨u7,rfl,hBc,hs7,hd7⟩;have hg:=grown_call hBc;replace hd7:∀ j,u7.ownBlock=some j→w0.heap.size≤j:=fun j hj=>Nat.le_trans hB.size (hd7 j hj);have hB:=keepB0 hg hB;refine⟨_,rfl,?_⟩;intro a ha;refine s1 ha rfl (av rfl) ?_;intro a ha;refine k4 _ _ ?_;refine wp_ret ?_;exact ret1 ha Tryd.results21 rfl ⟨_,rfl,hB,(Sl.castM (l:=tk (absR 136 (6:UInt8) noughts b) 32) hs7 rfl),hd7⟩

end Go.Proofs.YtdhgkfmniebghaaDoor

/- The permutation over plain numbers, in a form that the kernel reckons fast; it is the permutation of words. No program and no memory here. -/
namespace Go.Rx
set_option maxRecDepth 100000
set_option maxHeartbeats 4000000
set_option linter.unusedVariables false

def nrot (x k j:Nat):Nat:=Nat.lor (Nat.mod (Nat.shiftLeft x k) 18446744073709551616) (Nat.shiftRight x j)
def nchi (x y z:Nat):Nat:=Nat.xor x (Nat.land z (Nat.xor y 18446744073709551615))
def nmix (p q:Nat):Nat:=Nat.xor p (nrot q 1 63)
def nfive (a b c d e:Nat):Nat:=Nat.xor (Nat.xor (Nat.xor (Nat.xor a b) c) d) e
def nchiR {α:Type} (c a0 a1 a2 a3 a4 a5 a6 a7 a8 a9 a10 a11 a12 a13 a14 a15 a16 a17 a18 a19 a20 a21 a22 a23 a24:Nat) (K:Nat→Nat→Nat→Nat→Nat→Nat→Nat→Nat→Nat→Nat→Nat→Nat→Nat→Nat→Nat→Nat→Nat→Nat→Nat→Nat→Nat→Nat→Nat→Nat→Nat→α):α:=
  K (Nat.xor (nchi a0 a1 a2) c) (nchi a1 a2 a3) (nchi a2 a3 a4) (nchi a3 a4 a0) (nchi a4 a0 a1) (nchi a5 a6 a7) (nchi a6 a7 a8) (nchi a7 a8 a9) (nchi a8 a9 a5) (nchi a9 a5 a6) (nchi a10 a11 a12) (nchi a11 a12 a13) (nchi a12 a13 a14) (nchi a13 a14 a10) (nchi a14 a10 a11) (nchi a15 a16 a17) (nchi a16 a17 a18) (nchi a17 a18 a19) (nchi a18 a19 a15) (nchi a19 a15 a16) (nchi a20 a21 a22) (nchi a21 a22 a23) (nchi a22 a23 a24) (nchi a23 a24 a20) (nchi a24 a20 a21)
def nrhoR {α:Type} (c a0 a1 a2 a3 a4 a5 a6 a7 a8 a9 a10 a11 a12 a13 a14 a15 a16 a17 a18 a19 a20 a21 a22 a23 a24:Nat) (K:Nat→Nat→Nat→Nat→Nat→Nat→Nat→Nat→Nat→Nat→Nat→Nat→Nat→Nat→Nat→Nat→Nat→Nat→Nat→Nat→Nat→Nat→Nat→Nat→Nat→α):α:=
  nchiR c (nrot a0 0 64) (nrot a6 44 20) (nrot a12 43 21) (nrot a18 21 43) (nrot a24 14 50) (nrot a3 28 36) (nrot a9 20 44) (nrot a10 3 61) (nrot a16 45 19) (nrot a22 61 3) (nrot a1 1 63) (nrot a7 6 58) (nrot a13 25 39) (nrot a19 8 56) (nrot a20 18 46) (nrot a4 27 37) (nrot a5 36 28) (nrot a11 10 54) (nrot a17 15 49) (nrot a23 56 8) (nrot a2 62 2) (nrot a8 55 9) (nrot a14 39 25) (nrot a15 41 23) (nrot a21 2 62) K
def nthR {α:Type} (c a0 a1 a2 a3 a4 a5 a6 a7 a8 a9 a10 a11 a12 a13 a14 a15 a16 a17 a18 a19 a20 a21 a22 a23 a24 d0 d1 d2 d3 d4:Nat) (K:Nat→Nat→Nat→Nat→Nat→Nat→Nat→Nat→Nat→Nat→Nat→Nat→Nat→Nat→Nat→Nat→Nat→Nat→Nat→Nat→Nat→Nat→Nat→Nat→Nat→α):α:=
  nrhoR c (Nat.xor a0 d0) (Nat.xor a1 d1) (Nat.xor a2 d2) (Nat.xor a3 d3) (Nat.xor a4 d4) (Nat.xor a5 d0) (Nat.xor a6 d1) (Nat.xor a7 d2) (Nat.xor a8 d3) (Nat.xor a9 d4) (Nat.xor a10 d0) (Nat.xor a11 d1) (Nat.xor a12 d2) (Nat.xor a13 d3) (Nat.xor a14 d4) (Nat.xor a15 d0) (Nat.xor a16 d1) (Nat.xor a17 d2) (Nat.xor a18 d3) (Nat.xor a19 d4) (Nat.xor a20 d0) (Nat.xor a21 d1) (Nat.xor a22 d2) (Nat.xor a23 d3) (Nat.xor a24 d4) K
def ncR {α:Type} (c a0 a1 a2 a3 a4 a5 a6 a7 a8 a9 a10 a11 a12 a13 a14 a15 a16 a17 a18 a19 a20 a21 a22 a23 a24 c0 c1 c2 c3 c4:Nat) (K:Nat→Nat→Nat→Nat→Nat→Nat→Nat→Nat→Nat→Nat→Nat→Nat→Nat→Nat→Nat→Nat→Nat→Nat→Nat→Nat→Nat→Nat→Nat→Nat→Nat→α):α:=
  nthR c a0 a1 a2 a3 a4 a5 a6 a7 a8 a9 a10 a11 a12 a13 a14 a15 a16 a17 a18 a19 a20 a21 a22 a23 a24 (nmix c4 c1) (nmix c0 c2) (nmix c1 c3) (nmix c2 c4) (nmix c3 c0) K
def nround {α:Type} (c a0 a1 a2 a3 a4 a5 a6 a7 a8 a9 a10 a11 a12 a13 a14 a15 a16 a17 a18 a19 a20 a21 a22 a23 a24:Nat) (K:Nat→Nat→Nat→Nat→Nat→Nat→Nat→Nat→Nat→Nat→Nat→Nat→Nat→Nat→Nat→Nat→Nat→Nat→Nat→Nat→Nat→Nat→Nat→Nat→Nat→α):α:=
  ncR c a0 a1 a2 a3 a4 a5 a6 a7 a8 a9 a10 a11 a12 a13 a14 a15 a16 a17 a18 a19 a20 a21 a22 a23 a24 (nfive a0 a5 a10 a15 a20) (nfive a1 a6 a11 a16 a21) (nfive a2 a7 a12 a17 a22) (nfive a3 a8 a13 a18 a23) (nfive a4 a9 a14 a19 a24) K
def nrounds:List Nat→Nat→Nat→Nat→Nat→Nat→Nat→Nat→Nat→Nat→Nat→Nat→Nat→Nat→Nat→Nat→Nat→Nat→Nat→Nat→Nat→Nat→Nat→Nat→Nat→Nat→List Nat
  | [],a0,a1,a2,a3,a4,a5,a6,a7,a8,a9,a10,a11,a12,a13,a14,a15,a16,a17,a18,a19,a20,a21,a22,a23,a24=>[a0,a1,a2,a3,a4,a5,a6,a7,a8,a9,a10,a11,a12,a13,a14,a15,a16,a17,a18,a19,a20,a21,a22,a23,a24]
  | c::cs,a0,a1,a2,a3,a4,a5,a6,a7,a8,a9,a10,a11,a12,a13,a14,a15,a16,a17,a18,a19,a20,a21,a22,a23,a24=>nround c a0 a1 a2 a3 a4 a5 a6 a7 a8 a9 a10 a11 a12 a13 a14 a15 a16 a17 a18 a19 a20 a21 a22 a23 a24 (nrounds cs)
def nconsts:List Nat:=[0x0000000000000001,0x0000000000008082,0x800000000000808a,0x8000000080008000,0x000000000000808b,0x0000000080000001,0x8000000080008081,0x8000000000008009,0x000000000000008a,0x0000000000000088,0x0000000080008009,0x000000008000000a,0x000000008000808b,0x800000000000008b,0x8000000000008089,0x8000000000008003,0x8000000000008002,0x8000000000000080,0x000000000000800a,0x800000008000000a,0x8000000080008081,0x8000000000008080,0x0000000080000001,0x8000000080008008]
def nkf (l:List Nat):List Nat:=match l with
  | [a0,a1,a2,a3,a4,a5,a6,a7,a8,a9,a10,a11,a12,a13,a14,a15,a16,a17,a18,a19,a20,a21,a22,a23,a24]=>nrounds nconsts a0 a1 a2 a3 a4 a5 a6 a7 a8 a9 a10 a11 a12 a13 a14 a15 a16 a17 a18 a19 a20 a21 a22 a23 a24
  | _=>[]

theorem nrot_eq (x:UInt64) (k j:Nat) (hk:k<64) (hj:j=64 - k):(rotl x k).toNat=nrot x.toNat k j:=by
  subst hj;have hx:=x.toNat_lt;unfold rotl nrot shrG;rw[Nat.mod_eq_of_lt (show k<2 ^ 6 by omega)];rw[UInt64.toNat_or,UInt64.toNat_shiftLeft];have e1:(UInt64.ofNat k).toNat % 64=k:=by rw[UInt64.toNat_ofNat'];omega
  rw[e1]
  split
  · rename_i h
    have h0:k=0:=by omega
    subst h0;have e2:Nat.shiftRight x.toNat (64 - 0)=0:=by
      show x.toNat >>> 64=0;rw[Nat.shiftRight_eq_div_pow];omega
    rw[e2];rfl
  · rename_i h
    rw[UInt64.toNat_shiftRight];have e2:(UInt64.ofNat (64 - k)).toNat % 64=64 - k:=by rw[UInt64.toNat_ofNat'];omega
    rw[e2];rfl
theorem nchi_eq (x y z:UInt64):(x^^^(z&&& ~~~y)).toNat=nchi x.toNat y.toNat z.toNat:=by
  have hy:(~~~y).toNat=Nat.xor y.toNat 18446744073709551615:=by
    have h:(~~~y)=y^^^18446744073709551615:=UInt64.toBitVec_inj.1 (by show ~~~y.toBitVec=y.toBitVec^^^BitVec.allOnes 64;rw[BitVec.xor_allOnes]);rw[h,UInt64.toNat_xor];rfl
  rw[UInt64.toNat_xor,UInt64.toNat_and,hy];rfl
theorem nmix_eq (x y:UInt64):(x^^^rotl y 1).toNat=nmix x.toNat y.toNat:=by rw[UInt64.toNat_xor,nrot_eq y 1 63 (by omega) rfl];rfl

theorem thC_of (x0 x1 x2 x3 x4 x5 x6 x7 x8 x9 x10 x11 x12 x13 x14 x15 x16 x17 x18 x19 x20 x21 x22 x23 x24:UInt64):thC [x0,x1,x2,x3,x4,x5,x6,x7,x8,x9,x10,x11,x12,x13,x14,x15,x16,x17,x18,x19,x20,x21,x22,x23,x24] 5=[(x0^^^x5^^^x10^^^x15^^^x20),(x1^^^x6^^^x11^^^x16^^^x21),(x2^^^x7^^^x12^^^x17^^^x22),(x3^^^x8^^^x13^^^x18^^^x23),(x4^^^x9^^^x14^^^x19^^^x24)]:=by kernel_rfl
def thB (l C:List UInt64):Nat→List UInt64
  | 0=>l
  | k+1=>(thB l C k).set k ((thB l C k).getD k 0^^^(C.getD ((k % 5+4) % 5) 0^^^rotl (C.getD ((k % 5+1) % 5) 0) 1))
theorem thB_eq (l C:List UInt64) (h:thC l 5=C):∀ k,thA l k=thB l C k
  | 0=>rfl
  | k+1=>by rw[thA,thB,thB_eq l C h k,h]
theorem theta_of (x0 x1 x2 x3 x4 x5 x6 x7 x8 x9 x10 x11 x12 x13 x14 x15 x16 x17 x18 x19 x20 x21 x22 x23 x24:UInt64) (c0 c1 c2 c3 c4:UInt64) (h:thC [x0,x1,x2,x3,x4,x5,x6,x7,x8,x9,x10,x11,x12,x13,x14,x15,x16,x17,x18,x19,x20,x21,x22,x23,x24] 5=[c0,c1,c2,c3,c4]):theta [x0,x1,x2,x3,x4,x5,x6,x7,x8,x9,x10,x11,x12,x13,x14,x15,x16,x17,x18,x19,x20,x21,x22,x23,x24]=[x0^^^(c4^^^rotl c1 1),x1^^^(c0^^^rotl c2 1),x2^^^(c1^^^rotl c3 1),x3^^^(c2^^^rotl c4 1),x4^^^(c3^^^rotl c0 1),x5^^^(c4^^^rotl c1 1),x6^^^(c0^^^rotl c2 1),x7^^^(c1^^^rotl c3 1),x8^^^(c2^^^rotl c4 1),x9^^^(c3^^^rotl c0 1),x10^^^(c4^^^rotl c1 1),x11^^^(c0^^^rotl c2 1),x12^^^(c1^^^rotl c3 1),x13^^^(c2^^^rotl c4 1),x14^^^(c3^^^rotl c0 1),x15^^^(c4^^^rotl c1 1),x16^^^(c0^^^rotl c2 1),x17^^^(c1^^^rotl c3 1),x18^^^(c2^^^rotl c4 1),x19^^^(c3^^^rotl c0 1),x20^^^(c4^^^rotl c1 1),x21^^^(c0^^^rotl c2 1),x22^^^(c1^^^rotl c3 1),x23^^^(c2^^^rotl c4 1),x24^^^(c3^^^rotl c0 1)]:=by
  rw[theta,thB_eq _ _ h];kernel_rfl
theorem rho_of (x0 x1 x2 x3 x4 x5 x6 x7 x8 x9 x10 x11 x12 x13 x14 x15 x16 x17 x18 x19 x20 x21 x22 x23 x24:UInt64):rho [x0,x1,x2,x3,x4,x5,x6,x7,x8,x9,x10,x11,x12,x13,x14,x15,x16,x17,x18,x19,x20,x21,x22,x23,x24]=[rotl x0 0,rotl x1 1,rotl x2 62,rotl x3 28,rotl x4 27,rotl x5 36,rotl x6 44,rotl x7 6,rotl x8 55,rotl x9 20,rotl x10 3,rotl x11 10,rotl x12 43,rotl x13 25,rotl x14 39,rotl x15 41,rotl x16 45,rotl x17 15,rotl x18 21,rotl x19 8,rotl x20 18,rotl x21 2,rotl x22 61,rotl x23 56,rotl x24 14]:=by kernel_rfl
theorem pi_of (x0 x1 x2 x3 x4 x5 x6 x7 x8 x9 x10 x11 x12 x13 x14 x15 x16 x17 x18 x19 x20 x21 x22 x23 x24:UInt64):pi [x0,x1,x2,x3,x4,x5,x6,x7,x8,x9,x10,x11,x12,x13,x14,x15,x16,x17,x18,x19,x20,x21,x22,x23,x24]=[x0,x6,x12,x18,x24,x3,x9,x10,x16,x22,x1,x7,x13,x19,x20,x4,x5,x11,x17,x23,x2,x8,x14,x15,x21]:=by kernel_rfl
theorem chi_of (x0 x1 x2 x3 x4 x5 x6 x7 x8 x9 x10 x11 x12 x13 x14 x15 x16 x17 x18 x19 x20 x21 x22 x23 x24:UInt64):chi [x0,x1,x2,x3,x4,x5,x6,x7,x8,x9,x10,x11,x12,x13,x14,x15,x16,x17,x18,x19,x20,x21,x22,x23,x24]=[x0^^^(x2&&& ~~~x1),x1^^^(x3&&& ~~~x2),x2^^^(x4&&& ~~~x3),x3^^^(x0&&& ~~~x4),x4^^^(x1&&& ~~~x0),x5^^^(x7&&& ~~~x6),x6^^^(x8&&& ~~~x7),x7^^^(x9&&& ~~~x8),x8^^^(x5&&& ~~~x9),x9^^^(x6&&& ~~~x5),x10^^^(x12&&& ~~~x11),x11^^^(x13&&& ~~~x12),x12^^^(x14&&& ~~~x13),x13^^^(x10&&& ~~~x14),x14^^^(x11&&& ~~~x10),x15^^^(x17&&& ~~~x16),x16^^^(x18&&& ~~~x17),x17^^^(x19&&& ~~~x18),x18^^^(x15&&& ~~~x19),x19^^^(x16&&& ~~~x15),x20^^^(x22&&& ~~~x21),x21^^^(x23&&& ~~~x22),x22^^^(x24&&& ~~~x23),x23^^^(x20&&& ~~~x24),x24^^^(x21&&& ~~~x20)]:=by kernel_rfl

def uchiR {α:Type} (c a0 a1 a2 a3 a4 a5 a6 a7 a8 a9 a10 a11 a12 a13 a14 a15 a16 a17 a18 a19 a20 a21 a22 a23 a24:UInt64) (K:UInt64→UInt64→UInt64→UInt64→UInt64→UInt64→UInt64→UInt64→UInt64→UInt64→UInt64→UInt64→UInt64→UInt64→UInt64→UInt64→UInt64→UInt64→UInt64→UInt64→UInt64→UInt64→UInt64→UInt64→UInt64→α):α:=
  K ((a0^^^(a2&&& ~~~a1))^^^c) (a1^^^(a3&&& ~~~a2)) (a2^^^(a4&&& ~~~a3)) (a3^^^(a0&&& ~~~a4)) (a4^^^(a1&&& ~~~a0)) (a5^^^(a7&&& ~~~a6)) (a6^^^(a8&&& ~~~a7)) (a7^^^(a9&&& ~~~a8)) (a8^^^(a5&&& ~~~a9)) (a9^^^(a6&&& ~~~a5)) (a10^^^(a12&&& ~~~a11)) (a11^^^(a13&&& ~~~a12)) (a12^^^(a14&&& ~~~a13)) (a13^^^(a10&&& ~~~a14)) (a14^^^(a11&&& ~~~a10)) (a15^^^(a17&&& ~~~a16)) (a16^^^(a18&&& ~~~a17)) (a17^^^(a19&&& ~~~a18)) (a18^^^(a15&&& ~~~a19)) (a19^^^(a16&&& ~~~a15)) (a20^^^(a22&&& ~~~a21)) (a21^^^(a23&&& ~~~a22)) (a22^^^(a24&&& ~~~a23)) (a23^^^(a20&&& ~~~a24)) (a24^^^(a21&&& ~~~a20))
def urhoR {α:Type} (c a0 a1 a2 a3 a4 a5 a6 a7 a8 a9 a10 a11 a12 a13 a14 a15 a16 a17 a18 a19 a20 a21 a22 a23 a24:UInt64) (K:UInt64→UInt64→UInt64→UInt64→UInt64→UInt64→UInt64→UInt64→UInt64→UInt64→UInt64→UInt64→UInt64→UInt64→UInt64→UInt64→UInt64→UInt64→UInt64→UInt64→UInt64→UInt64→UInt64→UInt64→UInt64→α):α:=
  uchiR c (rotl a0 0) (rotl a6 44) (rotl a12 43) (rotl a18 21) (rotl a24 14) (rotl a3 28) (rotl a9 20) (rotl a10 3) (rotl a16 45) (rotl a22 61) (rotl a1 1) (rotl a7 6) (rotl a13 25) (rotl a19 8) (rotl a20 18) (rotl a4 27) (rotl a5 36) (rotl a11 10) (rotl a17 15) (rotl a23 56) (rotl a2 62) (rotl a8 55) (rotl a14 39) (rotl a15 41) (rotl a21 2) K
def uthR {α:Type} (c a0 a1 a2 a3 a4 a5 a6 a7 a8 a9 a10 a11 a12 a13 a14 a15 a16 a17 a18 a19 a20 a21 a22 a23 a24 d0 d1 d2 d3 d4:UInt64) (K:UInt64→UInt64→UInt64→UInt64→UInt64→UInt64→UInt64→UInt64→UInt64→UInt64→UInt64→UInt64→UInt64→UInt64→UInt64→UInt64→UInt64→UInt64→UInt64→UInt64→UInt64→UInt64→UInt64→UInt64→UInt64→α):α:=
  urhoR c (a0^^^d0) (a1^^^d1) (a2^^^d2) (a3^^^d3) (a4^^^d4) (a5^^^d0) (a6^^^d1) (a7^^^d2) (a8^^^d3) (a9^^^d4) (a10^^^d0) (a11^^^d1) (a12^^^d2) (a13^^^d3) (a14^^^d4) (a15^^^d0) (a16^^^d1) (a17^^^d2) (a18^^^d3) (a19^^^d4) (a20^^^d0) (a21^^^d1) (a22^^^d2) (a23^^^d3) (a24^^^d4) K
def ucR {α:Type} (c a0 a1 a2 a3 a4 a5 a6 a7 a8 a9 a10 a11 a12 a13 a14 a15 a16 a17 a18 a19 a20 a21 a22 a23 a24 c0 c1 c2 c3 c4:UInt64) (K:UInt64→UInt64→UInt64→UInt64→UInt64→UInt64→UInt64→UInt64→UInt64→UInt64→UInt64→UInt64→UInt64→UInt64→UInt64→UInt64→UInt64→UInt64→UInt64→UInt64→UInt64→UInt64→UInt64→UInt64→UInt64→α):α:=
  uthR c a0 a1 a2 a3 a4 a5 a6 a7 a8 a9 a10 a11 a12 a13 a14 a15 a16 a17 a18 a19 a20 a21 a22 a23 a24 (c4^^^rotl c1 1) (c0^^^rotl c2 1) (c1^^^rotl c3 1) (c2^^^rotl c4 1) (c3^^^rotl c0 1) K
def uround {α:Type} (c a0 a1 a2 a3 a4 a5 a6 a7 a8 a9 a10 a11 a12 a13 a14 a15 a16 a17 a18 a19 a20 a21 a22 a23 a24:UInt64) (K:UInt64→UInt64→UInt64→UInt64→UInt64→UInt64→UInt64→UInt64→UInt64→UInt64→UInt64→UInt64→UInt64→UInt64→UInt64→UInt64→UInt64→UInt64→UInt64→UInt64→UInt64→UInt64→UInt64→UInt64→UInt64→α):α:=
  ucR c a0 a1 a2 a3 a4 a5 a6 a7 a8 a9 a10 a11 a12 a13 a14 a15 a16 a17 a18 a19 a20 a21 a22 a23 a24 (a0^^^a5^^^a10^^^a15^^^a20) (a1^^^a6^^^a11^^^a16^^^a21) (a2^^^a7^^^a12^^^a17^^^a22) (a3^^^a8^^^a13^^^a18^^^a23) (a4^^^a9^^^a14^^^a19^^^a24) K
theorem nchiR_eq {α:Type} (c a0 a1 a2 a3 a4 a5 a6 a7 a8 a9 a10 a11 a12 a13 a14 a15 a16 a17 a18 a19 a20 a21 a22 a23 a24:UInt64) (K:Nat→Nat→Nat→Nat→Nat→Nat→Nat→Nat→Nat→Nat→Nat→Nat→Nat→Nat→Nat→Nat→Nat→Nat→Nat→Nat→Nat→Nat→Nat→Nat→Nat→α):nchiR c.toNat a0.toNat a1.toNat a2.toNat a3.toNat a4.toNat a5.toNat a6.toNat a7.toNat a8.toNat a9.toNat a10.toNat a11.toNat a12.toNat a13.toNat a14.toNat a15.toNat a16.toNat a17.toNat a18.toNat a19.toNat a20.toNat a21.toNat a22.toNat a23.toNat a24.toNat K=uchiR c a0 a1 a2 a3 a4 a5 a6 a7 a8 a9 a10 a11 a12 a13 a14 a15 a16 a17 a18 a19 a20 a21 a22 a23 a24 (fun a0 a1 a2 a3 a4 a5 a6 a7 a8 a9 a10 a11 a12 a13 a14 a15 a16 a17 a18 a19 a20 a21 a22 a23 a24=>K a0.toNat a1.toNat a2.toNat a3.toNat a4.toNat a5.toNat a6.toNat a7.toNat a8.toNat a9.toNat a10.toNat a11.toNat a12.toNat a13.toNat a14.toNat a15.toNat a16.toNat a17.toNat a18.toNat a19.toNat a20.toNat a21.toNat a22.toNat a23.toNat a24.toNat):=by
  simp only[nchiR,uchiR,UInt64.toNat_xor,← nchi_eq];rfl
theorem nrhoR_eq {α:Type} (c a0 a1 a2 a3 a4 a5 a6 a7 a8 a9 a10 a11 a12 a13 a14 a15 a16 a17 a18 a19 a20 a21 a22 a23 a24:UInt64) (K:Nat→Nat→Nat→Nat→Nat→Nat→Nat→Nat→Nat→Nat→Nat→Nat→Nat→Nat→Nat→Nat→Nat→Nat→Nat→Nat→Nat→Nat→Nat→Nat→Nat→α):nrhoR c.toNat a0.toNat a1.toNat a2.toNat a3.toNat a4.toNat a5.toNat a6.toNat a7.toNat a8.toNat a9.toNat a10.toNat a11.toNat a12.toNat a13.toNat a14.toNat a15.toNat a16.toNat a17.toNat a18.toNat a19.toNat a20.toNat a21.toNat a22.toNat a23.toNat a24.toNat K=urhoR c a0 a1 a2 a3 a4 a5 a6 a7 a8 a9 a10 a11 a12 a13 a14 a15 a16 a17 a18 a19 a20 a21 a22 a23 a24 (fun a0 a1 a2 a3 a4 a5 a6 a7 a8 a9 a10 a11 a12 a13 a14 a15 a16 a17 a18 a19 a20 a21 a22 a23 a24=>K a0.toNat a1.toNat a2.toNat a3.toNat a4.toNat a5.toNat a6.toNat a7.toNat a8.toNat a9.toNat a10.toNat a11.toNat a12.toNat a13.toNat a14.toNat a15.toNat a16.toNat a17.toNat a18.toNat a19.toNat a20.toNat a21.toNat a22.toNat a23.toNat a24.toNat):=by
  unfold nrhoR urhoR;rw[← nrot_eq a0 0 64 (by omega) rfl,← nrot_eq a1 1 63 (by omega) rfl,← nrot_eq a2 62 2 (by omega) rfl,← nrot_eq a3 28 36 (by omega) rfl,← nrot_eq a4 27 37 (by omega) rfl,← nrot_eq a5 36 28 (by omega) rfl,← nrot_eq a6 44 20 (by omega) rfl,← nrot_eq a7 6 58 (by omega) rfl,← nrot_eq a8 55 9 (by omega) rfl,← nrot_eq a9 20 44 (by omega) rfl,← nrot_eq a10 3 61 (by omega) rfl,← nrot_eq a11 10 54 (by omega) rfl,← nrot_eq a12 43 21 (by omega) rfl,← nrot_eq a13 25 39 (by omega) rfl,← nrot_eq a14 39 25 (by omega) rfl,← nrot_eq a15 41 23 (by omega) rfl,← nrot_eq a16 45 19 (by omega) rfl,← nrot_eq a17 15 49 (by omega) rfl,← nrot_eq a18 21 43 (by omega) rfl,← nrot_eq a19 8 56 (by omega) rfl,← nrot_eq a20 18 46 (by omega) rfl,← nrot_eq a21 2 62 (by omega) rfl,← nrot_eq a22 61 3 (by omega) rfl,← nrot_eq a23 56 8 (by omega) rfl,← nrot_eq a24 14 50 (by omega) rfl];exact nchiR_eq c _ _ _ _ _ _ _ _ _ _ _ _ _ _ _ _ _ _ _ _ _ _ _ _ _ K
theorem nxor_eq (x y:UInt64):Nat.xor x.toNat y.toNat=(x^^^y).toNat:=(UInt64.toNat_xor x y).symm
theorem nthR_eq {α:Type} (c a0 a1 a2 a3 a4 a5 a6 a7 a8 a9 a10 a11 a12 a13 a14 a15 a16 a17 a18 a19 a20 a21 a22 a23 a24 d0 d1 d2 d3 d4:UInt64) (K:Nat→Nat→Nat→Nat→Nat→Nat→Nat→Nat→Nat→Nat→Nat→Nat→Nat→Nat→Nat→Nat→Nat→Nat→Nat→Nat→Nat→Nat→Nat→Nat→Nat→α):nthR c.toNat a0.toNat a1.toNat a2.toNat a3.toNat a4.toNat a5.toNat a6.toNat a7.toNat a8.toNat a9.toNat a10.toNat a11.toNat a12.toNat a13.toNat a14.toNat a15.toNat a16.toNat a17.toNat a18.toNat a19.toNat a20.toNat a21.toNat a22.toNat a23.toNat a24.toNat d0.toNat d1.toNat d2.toNat d3.toNat d4.toNat K=uthR c a0 a1 a2 a3 a4 a5 a6 a7 a8 a9 a10 a11 a12 a13 a14 a15 a16 a17 a18 a19 a20 a21 a22 a23 a24 d0 d1 d2 d3 d4 (fun a0 a1 a2 a3 a4 a5 a6 a7 a8 a9 a10 a11 a12 a13 a14 a15 a16 a17 a18 a19 a20 a21 a22 a23 a24=>K a0.toNat a1.toNat a2.toNat a3.toNat a4.toNat a5.toNat a6.toNat a7.toNat a8.toNat a9.toNat a10.toNat a11.toNat a12.toNat a13.toNat a14.toNat a15.toNat a16.toNat a17.toNat a18.toNat a19.toNat a20.toNat a21.toNat a22.toNat a23.toNat a24.toNat):=by
  unfold nthR uthR;simp only[nxor_eq];exact nrhoR_eq c _ _ _ _ _ _ _ _ _ _ _ _ _ _ _ _ _ _ _ _ _ _ _ _ _ K
theorem ncR_eq {α:Type} (c a0 a1 a2 a3 a4 a5 a6 a7 a8 a9 a10 a11 a12 a13 a14 a15 a16 a17 a18 a19 a20 a21 a22 a23 a24 c0 c1 c2 c3 c4:UInt64) (K:Nat→Nat→Nat→Nat→Nat→Nat→Nat→Nat→Nat→Nat→Nat→Nat→Nat→Nat→Nat→Nat→Nat→Nat→Nat→Nat→Nat→Nat→Nat→Nat→Nat→α):ncR c.toNat a0.toNat a1.toNat a2.toNat a3.toNat a4.toNat a5.toNat a6.toNat a7.toNat a8.toNat a9.toNat a10.toNat a11.toNat a12.toNat a13.toNat a14.toNat a15.toNat a16.toNat a17.toNat a18.toNat a19.toNat a20.toNat a21.toNat a22.toNat a23.toNat a24.toNat c0.toNat c1.toNat c2.toNat c3.toNat c4.toNat K=ucR c a0 a1 a2 a3 a4 a5 a6 a7 a8 a9 a10 a11 a12 a13 a14 a15 a16 a17 a18 a19 a20 a21 a22 a23 a24 c0 c1 c2 c3 c4 (fun a0 a1 a2 a3 a4 a5 a6 a7 a8 a9 a10 a11 a12 a13 a14 a15 a16 a17 a18 a19 a20 a21 a22 a23 a24=>K a0.toNat a1.toNat a2.toNat a3.toNat a4.toNat a5.toNat a6.toNat a7.toNat a8.toNat a9.toNat a10.toNat a11.toNat a12.toNat a13.toNat a14.toNat a15.toNat a16.toNat a17.toNat a18.toNat a19.toNat a20.toNat a21.toNat a22.toNat a23.toNat a24.toNat):=by
  unfold ncR ucR;simp only[← nmix_eq];exact nthR_eq c a0 a1 a2 a3 a4 a5 a6 a7 a8 a9 a10 a11 a12 a13 a14 a15 a16 a17 a18 a19 a20 a21 a22 a23 a24 _ _ _ _ _ K
theorem nround_eq {α:Type} (c a0 a1 a2 a3 a4 a5 a6 a7 a8 a9 a10 a11 a12 a13 a14 a15 a16 a17 a18 a19 a20 a21 a22 a23 a24:UInt64) (K:Nat→Nat→Nat→Nat→Nat→Nat→Nat→Nat→Nat→Nat→Nat→Nat→Nat→Nat→Nat→Nat→Nat→Nat→Nat→Nat→Nat→Nat→Nat→Nat→Nat→α):nround c.toNat a0.toNat a1.toNat a2.toNat a3.toNat a4.toNat a5.toNat a6.toNat a7.toNat a8.toNat a9.toNat a10.toNat a11.toNat a12.toNat a13.toNat a14.toNat a15.toNat a16.toNat a17.toNat a18.toNat a19.toNat a20.toNat a21.toNat a22.toNat a23.toNat a24.toNat K=uround c a0 a1 a2 a3 a4 a5 a6 a7 a8 a9 a10 a11 a12 a13 a14 a15 a16 a17 a18 a19 a20 a21 a22 a23 a24 (fun a0 a1 a2 a3 a4 a5 a6 a7 a8 a9 a10 a11 a12 a13 a14 a15 a16 a17 a18 a19 a20 a21 a22 a23 a24=>K a0.toNat a1.toNat a2.toNat a3.toNat a4.toNat a5.toNat a6.toNat a7.toNat a8.toNat a9.toNat a10.toNat a11.toNat a12.toNat a13.toNat a14.toNat a15.toNat a16.toNat a17.toNat a18.toNat a19.toNat a20.toNat a21.toNat a22.toNat a23.toNat a24.toNat):=by
  unfold nround uround nfive;simp only[nxor_eq];exact ncR_eq c a0 a1 a2 a3 a4 a5 a6 a7 a8 a9 a10 a11 a12 a13 a14 a15 a16 a17 a18 a19 a20 a21 a22 a23 a24 _ _ _ _ _ K

/-- Rounds by a list of constants. -/
def iotaC (c:UInt64) (l:List UInt64):List UInt64:=l.set 0 (l.getD 0 0^^^c)
def kperm (l:List UInt64):List UInt64:=chi (pi (rho (theta l)))
def kstep (l:List UInt64) (c:UInt64):List UInt64:=iotaC c (kperm l)
def krs (l:List UInt64):List UInt64→List UInt64
  | []=>l
  | c::cs=>krs (kstep l c) cs
def krsA (l cs:List UInt64):Nat→List UInt64
  | 0=>l
  | k+1=>kstep (krsA l cs k) (cs.getD k 0)
theorem krsA_cons (l:List UInt64) (c:UInt64) (cs:List UInt64):∀ k,krsA l (c::cs) (k+1)=krsA (kstep l c) cs k
  | 0=>by simp only[krsA,List.getD_cons_zero]
  | k+1=>by rw[krsA,krsA_cons l c cs k,krsA,List.getD_cons_succ]
theorem krs_eq:∀ (cs l:List UInt64),krs l cs=krsA l cs cs.length
  | [],l=>by simp only[krs,krsA,List.length_nil]
  | c::cs,l=>by rw[krs,krs_eq cs,List.length_cons,krsA_cons]
theorem kstep_round (l:List UInt64) (k:Nat):kstep l (consts.getD k 0)=kround l k:=by unfold kstep iotaC kround iota kperm;exact Eq.refl _
theorem krsA_kfA (l:List UInt64):∀ k,krsA l consts k=kfA l k
  | 0=>by simp only[krsA,kfA]
  | k+1=>by simp only[krsA,kfA,krsA_kfA l k,kstep_round]
theorem krs_kf (l:List UInt64):krs l consts=kf l:=by
  have h:consts.length=24:=rfl;rw[krs_eq,h,krsA_kfA];unfold kf;exact Eq.refl _
theorem uround_get (c:UInt64) (x0 x1 x2 x3 x4 x5 x6 x7 x8 x9 x10 x11 x12 x13 x14 x15 x16 x17 x18 x19 x20 x21 x22 x23 x24:UInt64):uround c x0 x1 x2 x3 x4 x5 x6 x7 x8 x9 x10 x11 x12 x13 x14 x15 x16 x17 x18 x19 x20 x21 x22 x23 x24 (fun a0 a1 a2 a3 a4 a5 a6 a7 a8 a9 a10 a11 a12 a13 a14 a15 a16 a17 a18 a19 a20 a21 a22 a23 a24=>[a0,a1,a2,a3,a4,a5,a6,a7,a8,a9,a10,a11,a12,a13,a14,a15,a16,a17,a18,a19,a20,a21,a22,a23,a24])=kstep [x0,x1,x2,x3,x4,x5,x6,x7,x8,x9,x10,x11,x12,x13,x14,x15,x16,x17,x18,x19,x20,x21,x22,x23,x24] c:=by
  unfold kstep iotaC kperm;have h:=thC_of x0 x1 x2 x3 x4 x5 x6 x7 x8 x9 x10 x11 x12 x13 x14 x15 x16 x17 x18 x19 x20 x21 x22 x23 x24;rw[theta_of x0 x1 x2 x3 x4 x5 x6 x7 x8 x9 x10 x11 x12 x13 x14 x15 x16 x17 x18 x19 x20 x21 x22 x23 x24 _ _ _ _ _ h,rho_of,pi_of,chi_of];show(_:List UInt64)=_;kernel_rfl
theorem uround_fold (c x0 x1 x2 x3 x4 x5 x6 x7 x8 x9 x10 x11 x12 x13 x14 x15 x16 x17 x18 x19 x20 x21 x22 x23 x24:UInt64) (cs:List UInt64):uround c x0 x1 x2 x3 x4 x5 x6 x7 x8 x9 x10 x11 x12 x13 x14 x15 x16 x17 x18 x19 x20 x21 x22 x23 x24 (fun a0 a1 a2 a3 a4 a5 a6 a7 a8 a9 a10 a11 a12 a13 a14 a15 a16 a17 a18 a19 a20 a21 a22 a23 a24=>(krs [a0,a1,a2,a3,a4,a5,a6,a7,a8,a9,a10,a11,a12,a13,a14,a15,a16,a17,a18,a19,a20,a21,a22,a23,a24] cs).map (·.toNat))=(krs (uround c x0 x1 x2 x3 x4 x5 x6 x7 x8 x9 x10 x11 x12 x13 x14 x15 x16 x17 x18 x19 x20 x21 x22 x23 x24 (fun a0 a1 a2 a3 a4 a5 a6 a7 a8 a9 a10 a11 a12 a13 a14 a15 a16 a17 a18 a19 a20 a21 a22 a23 a24=>[a0,a1,a2,a3,a4,a5,a6,a7,a8,a9,a10,a11,a12,a13,a14,a15,a16,a17,a18,a19,a20,a21,a22,a23,a24])) cs).map (·.toNat):=by kernel_rfl
theorem nrounds_eq:∀ (cs:List UInt64) (x0 x1 x2 x3 x4 x5 x6 x7 x8 x9 x10 x11 x12 x13 x14 x15 x16 x17 x18 x19 x20 x21 x22 x23 x24:UInt64),nrounds (cs.map (·.toNat)) x0.toNat x1.toNat x2.toNat x3.toNat x4.toNat x5.toNat x6.toNat x7.toNat x8.toNat x9.toNat x10.toNat x11.toNat x12.toNat x13.toNat x14.toNat x15.toNat x16.toNat x17.toNat x18.toNat x19.toNat x20.toNat x21.toNat x22.toNat x23.toNat x24.toNat=(krs [x0,x1,x2,x3,x4,x5,x6,x7,x8,x9,x10,x11,x12,x13,x14,x15,x16,x17,x18,x19,x20,x21,x22,x23,x24] cs).map (·.toNat)
  | [],x0,x1,x2,x3,x4,x5,x6,x7,x8,x9,x10,x11,x12,x13,x14,x15,x16,x17,x18,x19,x20,x21,x22,x23,x24=>rfl
  | c::cs,x0,x1,x2,x3,x4,x5,x6,x7,x8,x9,x10,x11,x12,x13,x14,x15,x16,x17,x18,x19,x20,x21,x22,x23,x24=>by
    show nround c.toNat x0.toNat x1.toNat x2.toNat x3.toNat x4.toNat x5.toNat x6.toNat x7.toNat x8.toNat x9.toNat x10.toNat x11.toNat x12.toNat x13.toNat x14.toNat x15.toNat x16.toNat x17.toNat x18.toNat x19.toNat x20.toNat x21.toNat x22.toNat x23.toNat x24.toNat (nrounds (cs.map (·.toNat)))=_;have ih:(fun a0 a1 a2 a3 a4 a5 a6 a7 a8 a9 a10 a11 a12 a13 a14 a15 a16 a17 a18 a19 a20 a21 a22 a23 a24=>nrounds (cs.map (·.toNat)) a0.toNat a1.toNat a2.toNat a3.toNat a4.toNat a5.toNat a6.toNat a7.toNat a8.toNat a9.toNat a10.toNat a11.toNat a12.toNat a13.toNat a14.toNat a15.toNat a16.toNat a17.toNat a18.toNat a19.toNat a20.toNat a21.toNat a22.toNat a23.toNat a24.toNat)=(fun a0 a1 a2 a3 a4 a5 a6 a7 a8 a9 a10 a11 a12 a13 a14 a15 a16 a17 a18 a19 a20 a21 a22 a23 a24=>(krs [a0,a1,a2,a3,a4,a5,a6,a7,a8,a9,a10,a11,a12,a13,a14,a15,a16,a17,a18,a19,a20,a21,a22,a23,a24] cs).map (·.toNat)):=by funext a0 a1 a2 a3 a4 a5 a6 a7 a8 a9 a10 a11 a12 a13 a14 a15 a16 a17 a18 a19 a20 a21 a22 a23 a24;exact nrounds_eq cs a0 a1 a2 a3 a4 a5 a6 a7 a8 a9 a10 a11 a12 a13 a14 a15 a16 a17 a18 a19 a20 a21 a22 a23 a24
    rw[nround_eq,ih,krs,← uround_get c x0 x1 x2 x3 x4 x5 x6 x7 x8 x9 x10 x11 x12 x13 x14 x15 x16 x17 x18 x19 x20 x21 x22 x23 x24];exact uround_fold c x0 x1 x2 x3 x4 x5 x6 x7 x8 x9 x10 x11 x12 x13 x14 x15 x16 x17 x18 x19 x20 x21 x22 x23 x24 cs
theorem nkf_eq (l:List UInt64) (h:l.length=25):nkf (l.map (·.toNat))=(kf l).map (·.toNat):=by
  match l,h with
  | [x0,x1,x2,x3,x4,x5,x6,x7,x8,x9,x10,x11,x12,x13,x14,x15,x16,x17,x18,x19,x20,x21,x22,x23,x24],_=>
    rw[← krs_kf,← nrounds_eq]
    rfl
end Go.Rx

/- The states that have taken in nothing, reckoned by the kernel. -/
namespace Go.Rx
set_option maxRecDepth 100000
end Go.Rx

/- Plain functions: the document's words, bytes and sponge, as its functions reckon them. -/
namespace Go.Rx
/-! ### The document's answers are the program's -/
end Go.Rx

/- The document's sponge is the program's. -/
namespace Go.Rx
set_option maxHeartbeats 400000
theorem getD_map_oob {α:Type} (l:List α) (i:Nat) (d:α) (h:l.length≤i):l.getD i d=d:=by simp[List.getD,List.getElem?_eq_none h]
theorem getD_app_l {α:Type} (a b:List α) (d:α) (i:Nat) (h:i<a.length):(a++b).getD i d=a.getD i d:=by simp only[List.getD_eq_getElem?_getD,List.getElem?_append_left h]
theorem getD_app_r {α:Type} (a b:List α) (d:α) (i:Nat) (h:a.length≤i):(a++b).getD i d=b.getD (i - a.length) d:=by simp only[List.getD_eq_getElem?_getD,List.getElem?_append_right h]
theorem getD_rep8 (n i:Nat):(List.replicate n (0:UInt8)).getD i 0=0:=by
  simp only[List.getD_eq_getElem?_getD,List.getElem?_replicate];split <;> rfl
theorem padB_get (r:Nat) (l:List UInt8) (h:l.length≤r) (j:Nat):(padB r l).getD j 0=l.getD j 0:=by
  unfold padB;rw[List.take_of_length_le h];rcases Nat.lt_or_ge j l.length with h1 | h1
  · rw[getD_app_l _ _ _ _ h1]
  · rw[getD_app_r _ _ _ _ h1,getD_map_oob l j 0 h1,List.drop_replicate,getD_rep8]
end Go.Rx

/- Plain functions: the codes and the keys; sums that the kernel reckons. -/
namespace Go.Rx
def wiA (p:List UInt8) (c:UInt8):Nat→List UInt8
  | 0=>p
  | k+1=>(wiA p c k).set k ((wiA p c k).getD k 0^^^c)
theorem wiA_len (p:List UInt8) (c:UInt8):∀ k,(wiA p c k).length=p.length
  | 0=>rfl
  | k+1=>by rw[wiA,List.length_set,wiA_len p c k]
def wi (p:List UInt8) (c:UInt8):List UInt8:=wiA p c 136
theorem wi_len (p:List UInt8) (c:UInt8):(wi p c).length=p.length:=wiA_len p c 136
def kk (key:List UInt8):List UInt8:=if key.length>136 then sum256 key else key
def macK (k b:List UInt8):List UInt8:=sum256 [wi (padB 136 k) 92,sum256 [wi (padB 136 k) 54,b].flatten].flatten
def mac (key b:List UInt8):List UInt8:=macK (kk key) b
theorem macK_len (k b:List UInt8):(macK k b).length=32:=by rw[macK,sum256_len]
theorem mac_len (key b:List UInt8):(mac key b).length=32:=by rw[mac,macK_len]
theorem mac_short (key b:List UInt8) (h:¬key.length>136):mac key b=macK key b:=by rw[mac,kk,if_neg h]
theorem mac_long (key b:List UInt8) (h:key.length>136):mac key b=macK (sum256 key) b:=by rw[mac,kk,if_pos h]
def th1 (ck i:List UInt8):List UInt8:=mac (mac ck i) [1]
def th2 (ck i:List UInt8):List UInt8:=mac (mac ck i) [th1 ck i,[2]].flatten
def th3 (ck i:List UInt8):List UInt8:=mac (mac ck i) [th2 ck i,[3]].flatten
theorem th1_len (ck i:List UInt8):(th1 ck i).length=32:=by rw[th1,mac_len]
theorem th2_len (ck i:List UInt8):(th2 ck i).length=32:=by rw[th2,mac_len]
theorem th3_len (ck i:List UInt8):(th3 ck i).length=32:=by rw[th3,mac_len]
/- the document's -/
def inA (k:List UInt8) (c:UInt8):Nat→List UInt8
  | 0=>[]
  | i+1=>inA k c i++[k.getD i 0^^^c]
theorem inA_len (k:List UInt8) (c:UInt8):∀ i,(inA k c i).length=i
  | 0=>rfl
  | i+1=>by rw[inA,lA,inA_len k c i];rfl
theorem padB_more (k:List UInt8) (n:Nat) (h:k.length+n≤136):padB 136 (k++List.replicate n (0:UInt8))=padB 136 k:=by
  apply ext_getD 0 _ _ (by rw[padB_len,padB_len]);intro i _;rw[padB_get _ _ (by rw[lA,lR];omega),padB_get _ _ (by omega)];rcases Nat.lt_or_ge i k.length with h1 | h1
  · rw[getD_app_l _ _ _ _ h1]
  · rw[getD_app_r _ _ _ _ h1,getD_rep8,getD_map_oob k i 0 h1]
theorem mac_more (k:List UInt8) (n:Nat) (b:List UInt8) (h:k.length+n≤136):mac k b=mac (k++List.replicate n (0:UInt8)) b:=by
  rw[mac_short k b (by omega),mac_short (k++_) b (by rw[lA,lR];omega),macK,macK,padB_more k n h]
/- sums by the kernel -/
def absNF (r:Nat) (s:UInt8):Nat→List Nat→List UInt8→List Nat
  | 0,a,l=>nkf ((lay (a.map UInt64.ofNat) (lastB r s l)).map (·.toNat))
  | n+1,a,l=>bif Nat.ble r l.length then absNF r s n (nkf ((lay (a.map UInt64.ofNat) (l.take r)).map (·.toNat))) (l.drop r) else nkf ((lay (a.map UInt64.ofNat) (lastB r s l)).map (·.toNat))
theorem back_map (a:List UInt64):(a.map (·.toNat)).map UInt64.ofNat=a:=by
  rw[List.map_map];have:(UInt64.ofNat ∘ fun x:UInt64=>x.toNat)=id:=by funext x;exact UInt64.ofNat_toNat
  rw[this,List.map_id]
theorem absNF_eq (r:Nat) (s:UInt8):∀ (n:Nat) (a:List UInt64) (l:List UInt8),a.length=25→absNF r s n (a.map (·.toNat)) l=(absF r s n a l).map (·.toNat)
  | 0,a,l,h=>by rw[absNF,absF,back_map,nkf_eq _ (by rw[lay_len,h])]
  | n+1,a,l,h=>by
    rw[absNF,absF,back_map,nkf_eq _ (by rw[lay_len,h]),nkf_eq _ (by rw[lay_len,h])];have hk:=kf_len (lay a (l.take r)) (by rw[lay_len,h]);generalize kf (lay a (l.take r))=q at*;by_cases hr:r≤l.length
    · rw[if_pos hr,show Nat.ble r l.length=true from Nat.ble_eq_true_of_le hr,cond_true]
      exact absNF_eq r s n q _ hk
    · rw[if_neg hr,show Nat.ble r l.length=false by rw[← Bool.not_eq_true];exact fun e=>hr (Nat.le_of_ble_eq_true e),cond_false]
def sumE (b:List UInt8):List UInt8:=tk ((absNF 136 6 b.length (List.replicate 25 0) b).map UInt64.ofNat) 32
theorem sum256_ev (b:List UInt8):sum256 b=sumE b:=by
  have h:=absNF_eq 136 6 b.length noughts b lR;rw[show noughts.map (·.toNat)=List.replicate 25 0 by rw[List.map_replicate];rfl] at h;rw[sumE,h,back_map];rfl
theorem mac_ev (k b i:List UInt8) (p q r:List UInt8) (hk:k.length≤136) (hp:wi (padB 136 k) 54=p) (hq:wi (padB 136 k) 92=q) (hi:sumE [p,b].flatten=i) (hr:sumE [q,i].flatten=r):mac k b=r:=by
  rw[mac_short k b (by omega),macK,hp,hq,sum256_ev,sum256_ev,hi,hr]
set_option maxRecDepth 100000
theorem mac_nil:mac [] []=([232,65,193,100,229,180,241,12,159,57,133,88,121,98,175,114,253,96,122,149,17,150,252,146,251,58,82,81,148,23,132,234]:List UInt8):=
  mac_ev [] [] ([181,21,66,255,28,47,74,148,195,135,192,202,215,170,191,107,205,226,177,45,134,19,168,113,30,144,125,139,255,115,78,217]) (List.replicate 136 54) (List.replicate 136 92) _ (by decide) (by kernel_rfl) (by kernel_rfl) (by kernel_rfl) (by kernel_rfl)
end Go.Rx

/- WALKS written by gen.py (own program) out of specs. -/
namespace Go.Proofs.YtdhgkfmniebghaaDoor
open Go.RowKit Go.Rx
set_option maxRecDepth 100000
set_option maxHeartbeats 4000000
set_option linter.unusedVariables false
set_option linter.unusedSimpArgs false

theorem c_with (p:List UInt8) (c:UInt8) (w0:World) (hl:p.length=136):
    Calls Tryd.prog 54 #[.agg ((p).map e8).toArray,e8 c] w0 fun e w'=>∃ u0:Value,e=.returned (u0)∧Below w0.heap.size w0 w'∧Sl w' u0 ((wi p c).map e8)∧(∀ j,u0.ownBlock=some j→w0.heap.size≤j):=by
 refine enter (args:=[_,_]) Tryd.func54 rfl Tryd.ntmps54 rfl ?_;intro a ha;have hB:=Below.refl w0.heap.size w0;refine qr fun K1 k2=>?_;refine sbox ha rfl rfl ?_;intro a w3 b4 ha hg hb4 hge4 hlt4;have hz4:=bz hB hge4;have hB:=keepB0 hg hB;refine s1 ha rfl (av rfl) ?_;intro a ha;refine k2 _ _ ?_;refine wp_seq_k fun K5 k6=>?_;refine qr fun K7 k8=>?_;refine s1 ha rfl (mv rfl) ?_;intro a ha;refine k8 _ _ ?_;refine wp_block ?_;refine loopG (fun(k:Nat) a w=>(k≤136)∧Has 17 [(1,e8 c),(2,.pointer (some ⟨b4,0,none⟩)),(6,en k)] a∧Below w0.heap.size w0 w∧w.heap[b4]?=some (.cells ((wiA p c k).map e8).toArray 67 (0,0))) (fun k=>136 - k) 0 ⟨(by omega),ha.to [1,2,6] rfl,hB,hb4⟩ ?_;clear ha a hB hb4;intro k a w9 ⟨hkk,ha,hB,hb4⟩;refine qr fun K10 k11=>?_;refine s1 ha rfl (fun _ ha=>r_lss ha ((k:Nat):Int) 136 (decide (k<136)) rfl rfl (dD (by omega))) ?_;intro a ha;refine k11 _ _ ?_;refine wp_seq_k fun K12 k13=>?_;refine cond_if ha rfl (fun hc14=>?_) (fun hc14=>?_)
 ·skip
  have hc14:=dT hc14;refine wp_skip ?_;refine k13 _ _ ?_;refine wp_seq_k fun K15 k16=>?_;refine wp_block ?_;refine qr fun K17 k18=>?_;refine s2 ha rfl (mv rfl) (av rfl) ?_;intro a ha;refine k18 _ _ ?_;refine region ?_;refine s6 ha rfl (mv rfl) (fun _ ha=>r_indexArr (i:=k) ha k Tryd.runUnderlying67 Tryd.sizeOf5 rfl rfl (by omega) (by omega)) (fun _ ha=>r_load ha rfl Tryd.isAgg5 (cell_of hb4 (get_map e8 (wiA p c k) 0 k (by rw[wiA_len,hl];omega)))) (mv rfl) (fun _ ha=>rb_xor ha ((wiA p c k).getD k 0) c rfl rfl) (fun _ ha=>r_indexArr (i:=k) ha k Tryd.runUnderlying67 Tryd.sizeOf5 rfl rfl (by omega) (by omega)) ?_;intro a ha;refine sstore ha (v:=e8 (((wiA p c k).getD k 0)^^^c)) rfl rfl rfl rfl Tryd.sizeOf5 hb4 (by rw[lM,wiA_len,hl];omega) ?_;intro a w19 ha hg hb4';rw[set_map] at hb4';have hb4:=hb4';have hB:=keepB1 hg (by omega) hB;refine k16 _ _ ?_;refine region ?_;refine s2 ha rfl (fun _ ha=>rn_add ha k 1 rfl rfl (by omega)) (mv rfl) ?_;intro a ha;exact⟨k+1,by omega,(by omega),ha.to [1,2,6] rfl,hB,hb4⟩
 ·skip
  have hc14:=dF hc14;refine wp_exit ?_;obtain rfl:k=136:=by omega
  refine k6 _ _ ?_;refine qr fun K20 k21=>?_;refine s2 ha rfl (fun _ ha=>r_sliceA ha Tryd.runUnderlying67 Tryd.sizeOf5 rfl) (av rfl) ?_;intro a ha;refine k21 _ _ ?_;refine wp_ret ?_;exact ret1 ha Tryd.results54 rfl ⟨_,rfl,hB,(Sl.castM (l:=wiA p c 136) (Sl.ofBlockM hb4 (by rw[wiA_len,hl]) (by omega)) rfl),(fun j hj=>by cases hj;exact hz4)⟩

theorem zero_67H1:∀ w,(zeroValue 67).run Tryd.prog w=.ok (.agg ((List.replicate 136 (0:UInt8)).map e8).toArray) w:=fun _=>by kernel_rfl
theorem c_macS (v:Value) (key:List UInt8) (u:Value) (b:List UInt8) (w0:World) (hs:Sl w0 v (key.map e8)) (hsu:Sl w0 u (b.map e8)) (hb:b.length≤50000) (hk:¬key.length>136) (hG:Glob w0):
    Calls Tryd.prog 31 #[v,u] w0 fun e w'=>∃ u0:Value,e=.returned (u0)∧Below w0.heap.size w0 w'∧Sl w' u0 ((mac key b).map e8)∧(∀ j,u0.ownBlock=some j→w0.heap.size≤j):=by
 refine enter (args:=[_,_]) Tryd.func31 rfl Tryd.ntmps31 rfl ?_;intro a ha;have hB:=Below.refl w0.heap.size w0;refine qr fun K1 k2=>?_;refine s1 ha rfl (av rfl) ?_;intro a ha;refine k2 _ _ ?_;refine wp_seq_k fun K3 k4=>?_;refine qr fun K5 k6=>?_;refine s3 ha rfl (mv rfl) (fun _ ha=>r_lenS ha Tryd.runUnderlying22 (hs.below hB) rfl (by rw[lM])) (fun _ ha=>r_gtr ha ((key.length:Nat):Int) 136 false rfl rfl (decide_eq_false (by omega))) ?_;intro a ha;refine k6 _ _ ?_;refine cond_f ha rfl ?_;refine wp_skip ?_;refine k4 _ _ ?_;refine qr fun K7 k8=>?_;refine salloc ha zero_67H1 rfl ?_;intro a w9 b10 ha hg hb10 hge10 hlt10;have hz10:=bz hB hge10;have hB:=keepB0 hg hB;refine k8 _ _ ?_;refine qr fun K11 k12=>?_;refine s2 ha rfl (fun _ ha=>r_sliceA ha Tryd.runUnderlying67 Tryd.sizeOf5 rfl) (mv rfl) ?_;intro a ha;refine scopy (d:=14) (C:=(key).map e8) (p:=(key.take 136).map e8) ha rfl rfl (hs.below hB) Tryd.underlying22 rfl hb10 (by rw[List.map_take]) (by simp only[lM,List.length_take,lR];omega) (one_e8 _) ?_ rfl rfl rfl;intro a w13 ha hg hb10';rw[copy_map] at hb10';clear hb10;have hb10:w13.heap[b10]?=some (.cells ((padB 136 key).map e8).toArray 67 (0,0)):=hb10';clear hb10';have hB:=keepB1 hg (by omega) hB;refine k12 _ _ ?_;refine qr fun K14 k15=>?_;refine s1 ha rfl (fun _ ha=>r_loadR ha rfl Tryd.isAgg67 Tryd.sizeOf67 (C:=(padB 136 key).map e8) (by rw[lM,padB_len]) (cells_all hb10)) ?_;intro a ha;refine sc ha (r_call ha [_,_] rfl Tryd.call54) rfl rfl rfl (c_with (padB 136 key) (54:UInt8) _ (by rw[padB_len])) ?_;rintro e w16 ⟨u17,rfl,hBc,hs17,hd17⟩;have hg:=grown_call hBc;have hnb_hs17_b10:=nbn hd17 hb10;replace hd17:∀ j,u17.ownBlock=some j→w0.heap.size≤j:=fun j hj=>Nat.le_trans hB.size (hd17 j hj);have⟨hB,hb10⟩:=kB1 hg hB hb10;refine⟨_,rfl,?_⟩;intro a ha;refine s1 ha rfl (mv rfl) ?_;intro a ha;refine sbuildS ha [(0,u17),(1,u)] [u17,u] rfl Tryd.runUnderlying76 Tryd.sizeOf22 Tryd.zeroValue22 rfl rfl rfl (fill2 (Sl.one hs17) (Sl.one (hsu.below hB))) rfl ?_;intro a w18 b19 ha hg hb19 hge19 hlt19;have hz19:=bz hB hge19;have hne_hs17_b19:∀ j,Value.ownBlock u17=some j→j≠b19:=fun j hj=>by have:=hs17.lt j hj;omega
 have hq10_19:=bl hb10 hge19;have⟨hB,hb10⟩:=kB1 hg hB hb10;have hs17:=keepS0 hg hs17;refine sc ha (r_call ha [_] rfl Tryd.call53) rfl rfl rfl (c_join (.slice (some ⟨b19,0,none⟩) 2 2) ([u17,u]) ([wi (padB 136 key) (54:UInt8),b]) _ (Sl.ofBlock (D:=[u17,u]) (C:=[u17,u]) hb19 rfl (Nat.le_refl _)) (.cons hs17 (.cons (hsu.below hB) .nil)) (by simp only[List.flatten_cons,List.flatten_nil,List.append_nil,lA,wi_len,padB_len,sum256_len];omega) (show 2≤1000 by omega)) ?_;rintro e w20 ⟨u21,rfl,hBc,hs21,hd21⟩;have hg:=grown_call hBc;have hnb_hs21_b10:=nbn hd21 hb10;replace hd21:∀ j,u21.ownBlock=some j→w0.heap.size≤j:=fun j hj=>Nat.le_trans hB.size (hd21 j hj);have⟨hB,hb10⟩:=kB1 hg hB hb10;refine⟨_,rfl,?_⟩;intro a ha;refine sc ha (r_call ha [_] rfl Tryd.call21) rfl rfl rfl (c_sum256 u21 (([wi (padB 136 key) (54:UInt8),b]).flatten) _ hs21 (glob_keep hG hB)) ?_;rintro e w22 ⟨u23,rfl,hBc,hs23,hd23⟩;have hg:=grown_call hBc;have hnb_hs23_b10:=nbn hd23 hb10;replace hd23:∀ j,u23.ownBlock=some j→w0.heap.size≤j:=fun j hj=>Nat.le_trans hB.size (hd23 j hj);have⟨hB,hb10⟩:=kB1 hg hB hb10;refine⟨_,rfl,?_⟩;intro a ha;refine s1 ha rfl (av rfl) ?_;intro a ha;refine k15 _ _ ?_;refine qr fun K24 k25=>?_;refine s1 ha rfl (fun _ ha=>r_loadR ha rfl Tryd.isAgg67 Tryd.sizeOf67 (C:=(padB 136 key).map e8) (by rw[lM,padB_len]) (cells_all hb10)) ?_;intro a ha;refine sc ha (r_call ha [_,_] rfl Tryd.call54) rfl rfl rfl (c_with (padB 136 key) (92:UInt8) _ (by rw[padB_len])) ?_;rintro e w26 ⟨u27,rfl,hBc,hs27,hd27⟩;have hg:=grown_call hBc;have hds_hs27_hs23:=nds hd27 (fun j hj=>hs23.lt j hj);replace hd27:∀ j,u27.ownBlock=some j→w0.heap.size≤j:=fun j hj=>Nat.le_trans hB.size (hd27 j hj);have hB:=keepB0 hg hB;have hs23:=keepS0 hg hs23;refine⟨_,rfl,?_⟩;intro a ha;refine s1 ha rfl (mv rfl) ?_;intro a ha;refine sbuildS ha [(0,u27),(1,u23)] [u27,u23] rfl Tryd.runUnderlying76 Tryd.sizeOf22 Tryd.zeroValue22 rfl rfl rfl (fill2 (Sl.one hs27) (Sl.one hs23)) rfl ?_;intro a w28 b29 ha hg hb29 hge29 hlt29;have hz29:=bz hB hge29;have hne_hs23_b29:∀ j,Value.ownBlock u23=some j→j≠b29:=fun j hj=>by have:=hs23.lt j hj;omega
 have hne_hs27_b29:∀ j,Value.ownBlock u27=some j→j≠b29:=fun j hj=>by have:=hs27.lt j hj;omega
 have hB:=keepB0 hg hB;have hs23:=keepS0 hg hs23;have hs27:=keepS0 hg hs27;refine sc ha (r_call ha [_] rfl Tryd.call53) rfl rfl rfl (c_join (.slice (some ⟨b29,0,none⟩) 2 2) ([u27,u23]) ([wi (padB 136 key) (92:UInt8),sum256 (([wi (padB 136 key) (54:UInt8),b]).flatten)]) _ (Sl.ofBlock (D:=[u27,u23]) (C:=[u27,u23]) hb29 rfl (Nat.le_refl _)) (.cons hs27 (.cons hs23 .nil)) (by simp only[List.flatten_cons,List.flatten_nil,List.append_nil,lA,wi_len,padB_len,sum256_len];omega) (show 2≤1000 by omega)) ?_;rintro e w30 ⟨u31,rfl,hBc,hs31,hd31⟩;have hg:=grown_call hBc;replace hd31:∀ j,u31.ownBlock=some j→w0.heap.size≤j:=fun j hj=>Nat.le_trans hB.size (hd31 j hj);have hB:=keepB0 hg hB;refine⟨_,rfl,?_⟩;intro a ha;refine sc ha (r_call ha [_] rfl Tryd.call21) rfl rfl rfl (c_sum256 u31 (([wi (padB 136 key) (92:UInt8),sum256 (([wi (padB 136 key) (54:UInt8),b]).flatten)]).flatten) _ hs31 (glob_keep hG hB)) ?_;rintro e w32 ⟨u33,rfl,hBc,hs33,hd33⟩;have hg:=grown_call hBc;replace hd33:∀ j,u33.ownBlock=some j→w0.heap.size≤j:=fun j hj=>Nat.le_trans hB.size (hd33 j hj);have hB:=keepB0 hg hB;refine⟨_,rfl,?_⟩;intro a ha;refine s1 ha rfl (av rfl) ?_;intro a ha;refine k25 _ _ ?_;refine wp_ret ?_;exact ret1 ha Tryd.results31 rfl ⟨_,rfl,hB,(Sl.castM (l:=sum256 (([wi (padB 136 key) (92:UInt8),sum256 (([wi (padB 136 key) (54:UInt8),b]).flatten)]).flatten)) hs33 (mac_short key b hk).symm),hd33⟩

theorem c_macL (v:Value) (key:List UInt8) (u:Value) (b:List UInt8) (w0:World) (hs:Sl w0 v (key.map e8)) (hsu:Sl w0 u (b.map e8)) (hb:b.length≤50000) (hk:key.length>136) (hG:Glob w0):
    Calls Tryd.prog 31 #[v,u] w0 fun e w'=>∃ u0:Value,e=.returned (u0)∧Below w0.heap.size w0 w'∧Sl w' u0 ((mac key b).map e8)∧(∀ j,u0.ownBlock=some j→w0.heap.size≤j):=by
 refine enter (args:=[_,_]) Tryd.func31 rfl Tryd.ntmps31 rfl ?_;intro a ha;have hB:=Below.refl w0.heap.size w0;refine qr fun K1 k2=>?_;refine s1 ha rfl (av rfl) ?_;intro a ha;refine k2 _ _ ?_;refine wp_seq_k fun K3 k4=>?_;refine qr fun K5 k6=>?_;refine s3 ha rfl (mv rfl) (fun _ ha=>r_lenS ha Tryd.runUnderlying22 (hs.below hB) rfl (by rw[lM])) (fun _ ha=>r_gtr ha ((key.length:Nat):Int) 136 true rfl rfl (decide_eq_true (by omega))) ?_;intro a ha;refine k6 _ _ ?_;refine cond_t ha rfl ?_;refine region ?_;refine s1 ha rfl (mv rfl) ?_;intro a ha;refine sc ha (r_call ha [_] rfl Tryd.call21) rfl rfl rfl (c_sum256 v key _ (hs.below hB) (glob_keep hG hB)) ?_;rintro e w7 ⟨u8,rfl,hBc,hs8,hd8⟩;have hg:=grown_call hBc;replace hd8:∀ j,u8.ownBlock=some j→w0.heap.size≤j:=fun j hj=>Nat.le_trans hB.size (hd8 j hj);have hB:=keepB0 hg hB;refine⟨_,rfl,?_⟩;intro a ha;refine s1 ha rfl (av rfl) ?_;intro a ha;refine k4 _ _ ?_;refine qr fun K9 k10=>?_;refine salloc ha zero_67H1 rfl ?_;intro a w11 b12 ha hg hb12 hge12 hlt12;have hz12:=bz hB hge12;have hne_hs8_b12:∀ j,Value.ownBlock u8=some j→j≠b12:=fun j hj=>by have:=hs8.lt j hj;omega
 have hB:=keepB0 hg hB;have hs8:=keepS0 hg hs8;refine k10 _ _ ?_;refine qr fun K13 k14=>?_;refine s2 ha rfl (fun _ ha=>r_sliceA ha Tryd.runUnderlying67 Tryd.sizeOf5 rfl) (mv rfl) ?_;intro a ha;refine scopy (d:=14) (C:=(sum256 key).map e8) (p:=((sum256 key).take 136).map e8) ha rfl rfl hs8 Tryd.underlying22 rfl hb12 (by rw[List.map_take]) (by simp only[lM,List.length_take,lR];omega) (one_e8 _) ?_ rfl rfl rfl;intro a w15 ha hg hb12';rw[copy_map] at hb12';clear hb12;have hb12:w15.heap[b12]?=some (.cells ((padB 136 (sum256 key)).map e8).toArray 67 (0,0)):=hb12';clear hb12';have hB:=keepB1 hg (by omega) hB;have hs8:=keepS1 hg (ne_of_ap hne_hs8_b12) hs8;refine k14 _ _ ?_;refine qr fun K16 k17=>?_;refine s1 ha rfl (fun _ ha=>r_loadR ha rfl Tryd.isAgg67 Tryd.sizeOf67 (C:=(padB 136 (sum256 key)).map e8) (by rw[lM,padB_len]) (cells_all hb12)) ?_;intro a ha;refine sc ha (r_call ha [_,_] rfl Tryd.call54) rfl rfl rfl (c_with (padB 136 (sum256 key)) (54:UInt8) _ (by rw[padB_len])) ?_;rintro e w18 ⟨u19,rfl,hBc,hs19,hd19⟩;have hg:=grown_call hBc;have hnb_hs19_b12:=nbn hd19 hb12;replace hd19:∀ j,u19.ownBlock=some j→w0.heap.size≤j:=fun j hj=>Nat.le_trans hB.size (hd19 j hj);have⟨hB,hb12⟩:=kB1 hg hB hb12;refine⟨_,rfl,?_⟩;intro a ha;refine s1 ha rfl (mv rfl) ?_;intro a ha;refine sbuildS ha [(0,u19),(1,u)] [u19,u] rfl Tryd.runUnderlying76 Tryd.sizeOf22 Tryd.zeroValue22 rfl rfl rfl (fill2 (Sl.one hs19) (Sl.one (hsu.below hB))) rfl ?_;intro a w20 b21 ha hg hb21 hge21 hlt21;have hz21:=bz hB hge21;have hne_hs19_b21:∀ j,Value.ownBlock u19=some j→j≠b21:=fun j hj=>by have:=hs19.lt j hj;omega
 have hq12_21:=bl hb12 hge21;have⟨hB,hb12⟩:=kB1 hg hB hb12;have hs19:=keepS0 hg hs19;refine sc ha (r_call ha [_] rfl Tryd.call53) rfl rfl rfl (c_join (.slice (some ⟨b21,0,none⟩) 2 2) ([u19,u]) ([wi (padB 136 (sum256 key)) (54:UInt8),b]) _ (Sl.ofBlock (D:=[u19,u]) (C:=[u19,u]) hb21 rfl (Nat.le_refl _)) (.cons hs19 (.cons (hsu.below hB) .nil)) (by simp only[List.flatten_cons,List.flatten_nil,List.append_nil,lA,wi_len,padB_len,sum256_len];omega) (show 2≤1000 by omega)) ?_;rintro e w22 ⟨u23,rfl,hBc,hs23,hd23⟩;have hg:=grown_call hBc;have hnb_hs23_b12:=nbn hd23 hb12;replace hd23:∀ j,u23.ownBlock=some j→w0.heap.size≤j:=fun j hj=>Nat.le_trans hB.size (hd23 j hj);have⟨hB,hb12⟩:=kB1 hg hB hb12;refine⟨_,rfl,?_⟩;intro a ha;refine sc ha (r_call ha [_] rfl Tryd.call21) rfl rfl rfl (c_sum256 u23 (([wi (padB 136 (sum256 key)) (54:UInt8),b]).flatten) _ hs23 (glob_keep hG hB)) ?_;rintro e w24 ⟨u25,rfl,hBc,hs25,hd25⟩;have hg:=grown_call hBc;have hnb_hs25_b12:=nbn hd25 hb12;replace hd25:∀ j,u25.ownBlock=some j→w0.heap.size≤j:=fun j hj=>Nat.le_trans hB.size (hd25 j hj);have⟨hB,hb12⟩:=kB1 hg hB hb12;refine⟨_,rfl,?_⟩;intro a ha;refine s1 ha rfl (av rfl) ?_;intro a ha;refine k17 _ _ ?_;refine qr fun K26 k27=>?_;refine s1 ha rfl (fun _ ha=>r_loadR ha rfl Tryd.isAgg67 Tryd.sizeOf67 (C:=(padB 136 (sum256 key)).map e8) (by rw[lM,padB_len]) (cells_all hb12)) ?_;intro a ha;refine sc ha (r_call ha [_,_] rfl Tryd.call54) rfl rfl rfl (c_with (padB 136 (sum256 key)) (92:UInt8) _ (by rw[padB_len])) ?_;rintro e w28 ⟨u29,rfl,hBc,hs29,hd29⟩;have hg:=grown_call hBc;have hds_hs29_hs25:=nds hd29 (fun j hj=>hs25.lt j hj);replace hd29:∀ j,u29.ownBlock=some j→w0.heap.size≤j:=fun j hj=>Nat.le_trans hB.size (hd29 j hj);have hB:=keepB0 hg hB;have hs25:=keepS0 hg hs25;refine⟨_,rfl,?_⟩;intro a ha;refine s1 ha rfl (mv rfl) ?_;intro a ha;refine sbuildS ha [(0,u29),(1,u25)] [u29,u25] rfl Tryd.runUnderlying76 Tryd.sizeOf22 Tryd.zeroValue22 rfl rfl rfl (fill2 (Sl.one hs29) (Sl.one hs25)) rfl ?_;intro a w30 b31 ha hg hb31 hge31 hlt31;have hz31:=bz hB hge31;have hne_hs25_b31:∀ j,Value.ownBlock u25=some j→j≠b31:=fun j hj=>by have:=hs25.lt j hj;omega
 have hne_hs29_b31:∀ j,Value.ownBlock u29=some j→j≠b31:=fun j hj=>by have:=hs29.lt j hj;omega
 have hB:=keepB0 hg hB;have hs25:=keepS0 hg hs25;have hs29:=keepS0 hg hs29;refine sc ha (r_call ha [_] rfl Tryd.call53) rfl rfl rfl (c_join (.slice (some ⟨b31,0,none⟩) 2 2) ([u29,u25]) ([wi (padB 136 (sum256 key)) (92:UInt8),sum256 (([wi (padB 136 (sum256 key)) (54:UInt8),b]).flatten)]) _ (Sl.ofBlock (D:=[u29,u25]) (C:=[u29,u25]) hb31 rfl (Nat.le_refl _)) (.cons hs29 (.cons hs25 .nil)) (by simp only[List.flatten_cons,List.flatten_nil,List.append_nil,lA,wi_len,padB_len,sum256_len];omega) (show 2≤1000 by omega)) ?_;rintro e w32 ⟨u33,rfl,hBc,hs33,hd33⟩;have hg:=grown_call hBc;replace hd33:∀ j,u33.ownBlock=some j→w0.heap.size≤j:=fun j hj=>Nat.le_trans hB.size (hd33 j hj);have hB:=keepB0 hg hB;refine⟨_,rfl,?_⟩;intro a ha;refine sc ha (r_call ha [_] rfl Tryd.call21) rfl rfl rfl (c_sum256 u33 (([wi (padB 136 (sum256 key)) (92:UInt8),sum256 (([wi (padB 136 (sum256 key)) (54:UInt8),b]).flatten)]).flatten) _ hs33 (glob_keep hG hB)) ?_;rintro e w34 ⟨u35,rfl,hBc,hs35,hd35⟩;have hg:=grown_call hBc;replace hd35:∀ j,u35.ownBlock=some j→w0.heap.size≤j:=fun j hj=>Nat.le_trans hB.size (hd35 j hj);have hB:=keepB0 hg hB;refine⟨_,rfl,?_⟩;intro a ha;refine s1 ha rfl (av rfl) ?_;intro a ha;refine k27 _ _ ?_;refine wp_ret ?_;exact ret1 ha Tryd.results31 rfl ⟨_,rfl,hB,(Sl.castM (l:=sum256 (([wi (padB 136 (sum256 key)) (92:UInt8),sum256 (([wi (padB 136 (sum256 key)) (54:UInt8),b]).flatten)]).flatten)) hs35 (mac_long key b hk).symm),hd35⟩

theorem c_mac (v:Value) (key:List UInt8) (u:Value) (b:List UInt8) (w0:World) (hs:Sl w0 v (key.map e8)) (hsu:Sl w0 u (b.map e8)) (hb:b.length≤50000) (hG:Glob w0):
    Calls Tryd.prog 31 #[v,u] w0 fun e w'=>∃ u0:Value,e=.returned (u0)∧Below w0.heap.size w0 w'∧Sl w' u0 ((mac key b).map e8)∧(∀ j,u0.ownBlock=some j→w0.heap.size≤j):=by
  by_cases hk:key.length>136
  · exact c_macL v key u b w0 hs hsu hb hk hG
  · exact c_macS v key u b w0 hs hsu hb hk hG

theorem c_three (v:Value) (ck:List UInt8) (u:Value) (i:List UInt8) (w0:World) (hs:Sl w0 v (ck.map e8)) (hsu:Sl w0 u (i.map e8)) (hb:i.length≤50000) (hG:Glob w0):
    Calls Tryd.prog 34 #[v,u] w0 fun e w'=>∃ u0 u1 u2:Value,e=.returned (.tuple #[u0,u1,u2])∧Below w0.heap.size w0 w'∧Sl w' u0 ((th1 ck i).map e8)∧(∀ j,u0.ownBlock=some j→w0.heap.size≤j)∧Sl w' u1 ((th2 ck i).map e8)∧(∀ j,u1.ownBlock=some j→w0.heap.size≤j)∧Sl w' u2 ((th3 ck i).map e8)∧(∀ j,u2.ownBlock=some j→w0.heap.size≤j):=by
 refine enter (args:=[_,_]) Tryd.func34 rfl Tryd.ntmps34 rfl ?_;intro a ha;have hB:=Below.refl w0.heap.size w0;refine qr fun K1 k2=>?_;refine s3 ha rfl (av rfl) (av rfl) (av rfl) ?_;intro a ha;refine k2 _ _ ?_;refine qr fun K3 k4=>?_;refine s2 ha rfl (mv rfl) (mv rfl) ?_;intro a ha;refine sc ha (r_call ha [_,_] rfl Tryd.call31) rfl rfl rfl (c_mac v ck u i _ (hs.below hB) (hsu.below hB) (by omega) (glob_keep hG hB)) ?_;rintro e w5 ⟨u6,rfl,hBc,hs6,hd6⟩;have hg:=grown_call hBc;replace hd6:∀ j,u6.ownBlock=some j→w0.heap.size≤j:=fun j hj=>Nat.le_trans hB.size (hd6 j hj);have hB:=keepB0 hg hB;refine⟨_,rfl,?_⟩;intro a ha;refine s1 ha rfl (av rfl) ?_;intro a ha;refine k4 _ _ ?_;refine qr fun K7 k8=>?_;refine s1 ha rfl (mv rfl) ?_;intro a ha;refine sbuildS ha [(0,.int .u8 1)] (([(1:UInt8)]:List UInt8).map e8) rfl Tryd.runUnderlying22 Tryd.sizeOf5 Tryd.zeroValue5 rfl rfl rfl rfl rfl ?_;intro a w9 b10 ha hg hb10 hge10 hlt10;have hz10:=bz hB hge10;have hne_hs6_b10:∀ j,Value.ownBlock u6=some j→j≠b10:=fun j hj=>by have:=hs6.lt j hj;omega
 have hB:=keepB0 hg hB;have hs6:=keepS0 hg hs6;refine sc ha (r_call ha [_,_] rfl Tryd.call31) rfl rfl rfl (c_mac u6 (mac ck i) (.slice (some ⟨b10,0,none⟩) 1 1) ([(1:UInt8)]:List UInt8) _ hs6 (Sl.ofBlockM hb10 (by rw[show([(1:UInt8)]:List UInt8).length=1 from rfl]) (Nat.le_refl _)) (by show 1≤50000;omega) (glob_keep hG hB)) ?_;rintro e w11 ⟨u12,rfl,hBc,hs12,hd12⟩;have hg:=grown_call hBc;have hds_hs12_hs6:=nds hd12 (fun j hj=>hs6.lt j hj);replace hd12:∀ j,u12.ownBlock=some j→w0.heap.size≤j:=fun j hj=>Nat.le_trans hB.size (hd12 j hj);have hB:=keepB0 hg hB;have hs6:=keepS0 hg hs6;refine⟨_,rfl,?_⟩;intro a ha;refine s1 ha rfl (av rfl) ?_;intro a ha;refine k8 _ _ ?_;refine qr fun K13 k14=>?_;refine s2 ha rfl (mv rfl) (mv rfl) ?_;intro a ha;refine sbuildS ha [(0,.int .u8 2)] (([(2:UInt8)]:List UInt8).map e8) rfl Tryd.runUnderlying22 Tryd.sizeOf5 Tryd.zeroValue5 rfl rfl rfl rfl rfl ?_;intro a w15 b16 ha hg hb16 hge16 hlt16;have hz16:=bz hB hge16;have hne_hs6_b16:∀ j,Value.ownBlock u6=some j→j≠b16:=fun j hj=>by have:=hs6.lt j hj;omega
 have hne_hs12_b16:∀ j,Value.ownBlock u12=some j→j≠b16:=fun j hj=>by have:=hs12.lt j hj;omega
 have hB:=keepB0 hg hB;have hs6:=keepS0 hg hs6;have hs12:=keepS0 hg hs12;refine sbuildS ha [(0,u12),(1,.slice (some ⟨b16,0,none⟩) 1 1)] [u12,.slice (some ⟨b16,0,none⟩) 1 1] rfl Tryd.runUnderlying76 Tryd.sizeOf22 Tryd.zeroValue22 rfl rfl rfl (fill2 (Sl.one hs12) (Sl.one (Sl.ofBlockM hb16 (by rw[show([(2:UInt8)]:List UInt8).length=1 from rfl]) (by omega)))) rfl ?_;intro a w17 b18 ha hg hb18 hge18 hlt18;have hz18:=bz hB hge18;have hne_hs6_b18:∀ j,Value.ownBlock u6=some j→j≠b18:=fun j hj=>by have:=hs6.lt j hj;omega
 have hne_hs12_b18:∀ j,Value.ownBlock u12=some j→j≠b18:=fun j hj=>by have:=hs12.lt j hj;omega
 have hq16_18:=bl hb16 hge18;have⟨hB,hb16⟩:=kB1 hg hB hb16;have hs6:=keepS0 hg hs6;have hs12:=keepS0 hg hs12;refine sc ha (r_call ha [_] rfl Tryd.call53) rfl rfl rfl (c_join (.slice (some ⟨b18,0,none⟩) 2 2) ([u12,.slice (some ⟨b16,0,none⟩) 1 1]) ([mac (mac ck i) ([(1:UInt8)]:List UInt8),([(2:UInt8)]:List UInt8)]) _ (Sl.ofBlock (D:=[u12,.slice (some ⟨b16,0,none⟩) 1 1]) (C:=[u12,.slice (some ⟨b16,0,none⟩) 1 1]) hb18 rfl (Nat.le_refl _)) (.cons hs12 (.cons (Sl.ofBlockM hb16 (by rw[show([(2:UInt8)]:List UInt8).length=1 from rfl]) (by omega)) .nil)) (by first | omega | simp only[List.flatten_cons,List.flatten_nil,List.append_nil,lA,th1_len,th2_len,mac_len,List.length_cons,List.length_nil];omega) (show 2≤1000 by omega)) ?_;rintro e w19 ⟨u20,rfl,hBc,hs20,hd20⟩;have hg:=grown_call hBc;have hds_hs20_hs6:=nds hd20 (fun j hj=>hs6.lt j hj);have hds_hs20_hs12:=nds hd20 (fun j hj=>hs12.lt j hj);replace hd20:∀ j,u20.ownBlock=some j→w0.heap.size≤j:=fun j hj=>Nat.le_trans hB.size (hd20 j hj);have hB:=keepB0 hg hB;have hs6:=keepS0 hg hs6;have hs12:=keepS0 hg hs12;refine⟨_,rfl,?_⟩;intro a ha;refine sc ha (r_call ha [_,_] rfl Tryd.call31) rfl rfl rfl (c_mac u6 (mac ck i) u20 (([mac (mac ck i) ([(1:UInt8)]:List UInt8),([(2:UInt8)]:List UInt8)]).flatten) _ hs6 hs20 (by first | omega | simp only[List.flatten_cons,List.flatten_nil,List.append_nil,lA,th1_len,th2_len,mac_len,List.length_cons,List.length_nil];omega) (glob_keep hG hB)) ?_;rintro e w21 ⟨u22,rfl,hBc,hs22,hd22⟩;have hg:=grown_call hBc;have hds_hs22_hs6:=nds hd22 (fun j hj=>hs6.lt j hj);have hds_hs22_hs12:=nds hd22 (fun j hj=>hs12.lt j hj);replace hd22:∀ j,u22.ownBlock=some j→w0.heap.size≤j:=fun j hj=>Nat.le_trans hB.size (hd22 j hj);have hB:=keepB0 hg hB;have hs6:=keepS0 hg hs6;have hs12:=keepS0 hg hs12;refine⟨_,rfl,?_⟩;intro a ha;refine s1 ha rfl (av rfl) ?_;intro a ha;refine k14 _ _ ?_;refine qr fun K23 k24=>?_;refine s4 ha rfl (mv rfl) (mv rfl) (mv rfl) (mv rfl) ?_;intro a ha;refine sbuildS ha [(0,.int .u8 3)] (([(3:UInt8)]:List UInt8).map e8) rfl Tryd.runUnderlying22 Tryd.sizeOf5 Tryd.zeroValue5 rfl rfl rfl rfl rfl ?_;intro a w25 b26 ha hg hb26 hge26 hlt26;have hz26:=bz hB hge26;have hne_hs6_b26:∀ j,Value.ownBlock u6=some j→j≠b26:=fun j hj=>by have:=hs6.lt j hj;omega
 have hne_hs12_b26:∀ j,Value.ownBlock u12=some j→j≠b26:=fun j hj=>by have:=hs12.lt j hj;omega
 have hne_hs22_b26:∀ j,Value.ownBlock u22=some j→j≠b26:=fun j hj=>by have:=hs22.lt j hj;omega
 have hB:=keepB0 hg hB;have hs6:=keepS0 hg hs6;have hs12:=keepS0 hg hs12;have hs22:=keepS0 hg hs22;refine sbuildS ha [(0,u22),(1,.slice (some ⟨b26,0,none⟩) 1 1)] [u22,.slice (some ⟨b26,0,none⟩) 1 1] rfl Tryd.runUnderlying76 Tryd.sizeOf22 Tryd.zeroValue22 rfl rfl rfl (fill2 (Sl.one hs22) (Sl.one (Sl.ofBlockM hb26 (by rw[show([(3:UInt8)]:List UInt8).length=1 from rfl]) (by omega)))) rfl ?_;intro a w27 b28 ha hg hb28 hge28 hlt28;have hz28:=bz hB hge28;have hne_hs6_b28:∀ j,Value.ownBlock u6=some j→j≠b28:=fun j hj=>by have:=hs6.lt j hj;omega
 have hne_hs12_b28:∀ j,Value.ownBlock u12=some j→j≠b28:=fun j hj=>by have:=hs12.lt j hj;omega
 have hne_hs22_b28:∀ j,Value.ownBlock u22=some j→j≠b28:=fun j hj=>by have:=hs22.lt j hj;omega
 have hq26_28:=bl hb26 hge28;have⟨hB,hb26⟩:=kB1 hg hB hb26;have hs6:=keepS0 hg hs6;have hs12:=keepS0 hg hs12;have hs22:=keepS0 hg hs22;refine sc ha (r_call ha [_] rfl Tryd.call53) rfl rfl rfl (c_join (.slice (some ⟨b28,0,none⟩) 2 2) ([u22,.slice (some ⟨b26,0,none⟩) 1 1]) ([mac (mac ck i) (([mac (mac ck i) ([(1:UInt8)]:List UInt8),([(2:UInt8)]:List UInt8)]).flatten),([(3:UInt8)]:List UInt8)]) _ (Sl.ofBlock (D:=[u22,.slice (some ⟨b26,0,none⟩) 1 1]) (C:=[u22,.slice (some ⟨b26,0,none⟩) 1 1]) hb28 rfl (Nat.le_refl _)) (.cons hs22 (.cons (Sl.ofBlockM hb26 (by rw[show([(3:UInt8)]:List UInt8).length=1 from rfl]) (by omega)) .nil)) (by first | omega | simp only[List.flatten_cons,List.flatten_nil,List.append_nil,lA,th1_len,th2_len,mac_len,List.length_cons,List.length_nil];omega) (show 2≤1000 by omega)) ?_;rintro e w29 ⟨u30,rfl,hBc,hs30,hd30⟩;have hg:=grown_call hBc;have hds_hs30_hs6:=nds hd30 (fun j hj=>hs6.lt j hj);have hds_hs30_hs12:=nds hd30 (fun j hj=>hs12.lt j hj);have hds_hs30_hs22:=nds hd30 (fun j hj=>hs22.lt j hj);replace hd30:∀ j,u30.ownBlock=some j→w0.heap.size≤j:=fun j hj=>Nat.le_trans hB.size (hd30 j hj);have hB:=keepB0 hg hB;have hs6:=keepS0 hg hs6;have hs12:=keepS0 hg hs12;have hs22:=keepS0 hg hs22;refine⟨_,rfl,?_⟩;intro a ha;refine sc ha (r_call ha [_,_] rfl Tryd.call31) rfl rfl rfl (c_mac u6 (mac ck i) u30 (([mac (mac ck i) (([mac (mac ck i) ([(1:UInt8)]:List UInt8),([(2:UInt8)]:List UInt8)]).flatten),([(3:UInt8)]:List UInt8)]).flatten) _ hs6 hs30 (by first | omega | simp only[List.flatten_cons,List.flatten_nil,List.append_nil,lA,th1_len,th2_len,mac_len,List.length_cons,List.length_nil];omega) (glob_keep hG hB)) ?_;rintro e w31 ⟨u32,rfl,hBc,hs32,hd32⟩;have hg:=grown_call hBc;have hds_hs32_hs12:=nds hd32 (fun j hj=>hs12.lt j hj);have hds_hs32_hs22:=nds hd32 (fun j hj=>hs22.lt j hj);replace hd32:∀ j,u32.ownBlock=some j→w0.heap.size≤j:=fun j hj=>Nat.le_trans hB.size (hd32 j hj);have hB:=keepB0 hg hB;have hs12:=keepS0 hg hs12;have hs22:=keepS0 hg hs22;refine⟨_,rfl,?_⟩;intro a ha;refine s3 ha rfl (av rfl) (av rfl) (av rfl) ?_;intro a ha;refine k24 _ _ ?_;refine wp_ret ?_;exact ret3 ha Tryd.results34 rfl rfl rfl ⟨_,_,_,rfl,hB,(Sl.castM (l:=mac (mac ck i) ([(1:UInt8)]:List UInt8)) hs12 rfl),hd12,(Sl.castM (l:=mac (mac ck i) (([mac (mac ck i) ([(1:UInt8)]:List UInt8),([(2:UInt8)]:List UInt8)]).flatten)) hs22 rfl),hd22,(Sl.castM (l:=mac (mac ck i) (([mac (mac ck i) (([mac (mac ck i) ([(1:UInt8)]:List UInt8),([(2:UInt8)]:List UInt8)]).flatten),([(3:UInt8)]:List UInt8)]).flatten)) hs32 rfl),hd32⟩

theorem c_two (v:Value) (ck:List UInt8) (u:Value) (i:List UInt8) (w0:World) (hs:Sl w0 v (ck.map e8)) (hsu:Sl w0 u (i.map e8)) (hb:i.length≤50000) (hG:Glob w0):
    Calls Tryd.prog 33 #[v,u] w0 fun e w'=>∃ u0 u1:Value,e=.returned (.tuple #[u0,u1])∧Below w0.heap.size w0 w'∧Sl w' u0 ((th1 ck i).map e8)∧(∀ j,u0.ownBlock=some j→w0.heap.size≤j)∧Sl w' u1 ((th2 ck i).map e8)∧(∀ j,u1.ownBlock=some j→w0.heap.size≤j):=by
 refine enter (args:=[_,_]) Tryd.func33 rfl Tryd.ntmps33 rfl ?_;intro a ha;have hB:=Below.refl w0.heap.size w0;refine qr fun K1 k2=>?_;refine s2 ha rfl (av rfl) (av rfl) ?_;intro a ha;refine k2 _ _ ?_;refine qr fun K3 k4=>?_;refine s2 ha rfl (mv rfl) (mv rfl) ?_;intro a ha;refine sc ha (r_call ha [_,_] rfl Tryd.call34) rfl rfl rfl (c_three v ck u i _ (hs.below hB) (hsu.below hB) (by omega) (glob_keep hG hB)) ?_;rintro e w5 ⟨u6,u7,u8,rfl,hBc,hs6,hd6,hs7,hd7,hs8,hd8⟩;have hg:=grown_call hBc;replace hd6:∀ j,u6.ownBlock=some j→w0.heap.size≤j:=fun j hj=>Nat.le_trans hB.size (hd6 j hj);replace hd7:∀ j,u7.ownBlock=some j→w0.heap.size≤j:=fun j hj=>Nat.le_trans hB.size (hd7 j hj);replace hd8:∀ j,u8.ownBlock=some j→w0.heap.size≤j:=fun j hj=>Nat.le_trans hB.size (hd8 j hj);have hB:=keepB0 hg hB;refine⟨_,rfl,?_⟩;intro a ha;refine s6 ha rfl (mv rfl) (fun _ ha=>r_extract ha rfl rfl) (fun _ ha=>r_extract ha rfl rfl) (fun _ ha=>r_extract ha rfl rfl) (av rfl) (av rfl) ?_;intro a ha;refine s1 ha rfl (av rfl) ?_;intro a ha;refine k4 _ _ ?_;refine qr fun K9 k10=>?_;refine s4 ha rfl (mv rfl) (mv rfl) (av rfl) (av rfl) ?_;intro a ha;refine k10 _ _ ?_;refine wp_ret ?_;exact ret2 ha Tryd.results33 rfl rfl ⟨_,_,rfl,hB,(Sl.castM (l:=th1 ck i) hs6 rfl),hd6,(Sl.castM (l:=th2 ck i) hs7 rfl),hd7⟩
end Go.Proofs.YtdhgkfmniebghaaDoor

/- More moves in a region that draws: what is not wanted, literals, appends. -/
namespace Go.Rx
open Go.RowKit
section
variable {P:Program} {ops:Array Oper} {Q:Exit→Act→World→Prop} {S:World→Prop} {T:List Nat}
variable {st:List Nat} {i:Nat} {r:List Nat} {a:Act} {w w':World} {o:Oper} {m:Nat} {env:Env} {v u:Value} {ty t:TypeId} {pos:String} {af:Array Edge} {x y:Operand} {dst:Option Tmp} {g:Option (Nat × Bool)}

end
end Go.Rx
