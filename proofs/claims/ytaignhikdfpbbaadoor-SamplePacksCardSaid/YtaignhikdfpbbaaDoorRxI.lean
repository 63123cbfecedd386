/- The operations of the calculus: strings, fields, stores through owned slices, literals of slices of slices, words' greatest and least. -/
import Derived.Test.YtaignhikdfpbbaaDoorRxH
import Derived.Laws.IdiomStrings
import Derived.KernelRfl
namespace Go.Rx
open Go.RowKit

/-- The string of bytes. -/
def strOf (l : List UInt8) : ByteArray := ⟨l.toArray⟩
theorem strOf_toList (l : List UInt8) : (strOf l).toList = l := by rw [ByteArray.toList_eq]; rfl
theorem strOf_size (l : List UInt8) : (strOf l).size = l.length := rfl
theorem strOf_app (l m : List UInt8) : strOf l ++ strOf m = strOf (l ++ m) := by
  apply ByteArray.ext
  simp [strOf]
theorem strOf_inj {l m : List UInt8} (h : strOf l = strOf m) : l = m := by have := congrArg ByteArray.toList h; rwa [strOf_toList, strOf_toList] at this

section
variable {P : Program} {n : Nat} {env : Env} {a : Act} {w0 w w' : World} {dst : Option Tmp} {ty : TypeId} {pos : String} {af : Array Edge} {g : Option (Nat × Bool)} {x y z : Operand} {t t' : TypeId} {v u : Value}
variable {ops : Array Oper} {Q : Exit → Act → World → Prop} {rest : List Oper} {d : Nat} {S : World → Prop} {T : List Nat} {m i : Nat} {st r : List Nat}

theorem r_conv_same (ha : Has n env a) {s d' : TypeId} {q : ByteArray} (hs : ∀ w, (underlying s).run P w = .ok .string w) (hd : ∀ w, (underlying d').run P w = .ok .string w) (hx : ev env x = some (.string q)) :
    (execOp a.eval ⟨dst, .convert s d' x, ty, pos, af, g⟩).run P w = .ok (.value (.string q)) w := by
  simp [execOp, ha.ev hx, convert, hs, hd]
theorem r_str (ha : Has n env a) {src dt e : TypeId} {l : List UInt8} (hs : P.underlying src = some (.slice e)) (he : P.underlying e = some (.int .u8)) (hd : P.underlying dt = some .string) (hx : ev env x = some v) (hsl : Sl w v (l.map e8)) :
    (execOp a.eval ⟨dst, .convert src dt x, ty, pos, af, g⟩).run P w = .ok (.value (.string (strOf l))) w := by
  have hc : (convert src dt v).run P w = .ok (.string (strOf l)) w := by
    obtain ⟨b, cap, hv, hcap, hb, hn⟩ := hsl
    rw [List.length_map] at hv
    subst hv
    cases b with
    | none =>
      have h0 := (hn rfl).1
      have : l = [] := by simpa using h0
      subst this
      rw [run_convert_bytes_nil w src e hs he _ _ dt hd]; rfl
    | some q =>
      obtain ⟨q1, q2, q3⟩ := hb q rfl
      exact run_convert_bytes_back w src dt e q cap l hs he hd fun j hj => by
        have hq : q = ⟨q.block, q.off, none⟩ := by cases q; simp only at q1; subst q1; rfl
        rw [hq, add_zero']
        exact q3 j _ (by simp [List.getElem?_eq_getElem hj])
  simp only [execOp, ha.ev hx, Sem.run_bind, hc, Result.andThen_ok]; rfl

theorem r_eqlS (ha : Has n env a) (l k : List UInt8) (c : Bool) (hx : ev env x = some (.string (strOf l))) (hy : ev env y = some (.string (strOf k))) (hc : decide (l = k) = c) :
    (execOp a.eval ⟨dst, .binOp .eql t x y t', ty, pos, af, g⟩).run P w = .ok (.value (.bool c)) w := by
  subst hc
  have h : (l == k) = decide (l = k) := by rw [Bool.eq_iff_iff]; simp
  simp [execOp, ha.ev hx, ha.ev hy, eqGuard, binOp, Op.stringOp, strOf_toList]
  exact h
theorem r_neqS (ha : Has n env a) (l k : List UInt8) (c : Bool) (hx : ev env x = some (.string (strOf l))) (hy : ev env y = some (.string (strOf k))) (hc : decide (l ≠ k) = c) :
    (execOp a.eval ⟨dst, .binOp .neq t x y t', ty, pos, af, g⟩).run P w = .ok (.value (.bool c)) w := by
  subst hc
  have h : (!(l == k)) = decide (l ≠ k) := by rw [show (l == k) = decide (l = k) by rw [Bool.eq_iff_iff]; simp]; simp
  simp [execOp, ha.ev hx, ha.ev hy, eqGuard, binOp, Op.stringOp, strOf_toList]
  simpa using h
theorem r_addS (ha : Has n env a) (l k : List UInt8) (hx : ev env x = some (.string (strOf l))) (hy : ev env y = some (.string (strOf k))) (hb : l.length + k.length ≤ 9223372036854775807) :
    (execOp a.eval ⟨dst, .binOp .add t x y t', ty, pos, af, g⟩).run P w = .ok (.value (.string (strOf (l ++ k)))) w := by
  have h : ¬ ((((strOf l).size + (strOf k).size : Nat) : Int) > IntKind.i64.max) := by
    rw [strOf_size, strOf_size]; show ¬ (((l.length + k.length : Nat) : Int) > 9223372036854775807); omega
  have hr : (Op.stringOp .add (strOf l) (strOf k)).run P w = .ok (.string (strOf (l ++ k))) w := by
    unfold Op.stringOp
    simp only [if_neg h]
    rw [strOf_app]; rfl
  have hr' : (binOp .add t (.string (strOf l)) (.string (strOf k))).run P w = .ok (.string (strOf (l ++ k))) w := by rw [← hr]; rfl
  simp [execOp, ha.ev hx, ha.ev hy, eqGuard, hr']
/-- len of a string. -/
theorem r_lenStr (ha : Has n env a) (l : List UInt8) (hT : ∀ w, (underlying t).run P w = .ok .string w) (hx : ev env x = some (.string (strOf l))) :
    (execOp a.eval ⟨dst, .call ⟨.builtin .len, #[x], #[t]⟩, ty, pos, af, g⟩).run P w = .ok (.value (en l.length)) w := by
  simp [execOp, resolve, ha.ev hx, invoke, builtin, Builtin.len_, hT, goInt, strOf_size]

/-- '[]byte(s)'. -/
theorem sconvB (ha : Has n env a) {src dt e : TypeId} {l : List UInt8} (hs : P.underlying src = some .string) (hd : P.underlying dt = some (.slice e)) (he : P.underlying e = some (.int .u8)) (hx : ev env x = some (.string (strOf l))) (hn : Nat.blt d n = true)
    (K : ∀ a' w' u, Has n ((d, u) :: env) a' → w.grownBy w' none → Sl w' u (l.map e8) → (∀ j, u.ownBlock = some j → w.heap.size ≤ j) → wpList P ops Q rest a' w') :
    wpList P ops Q (⟨some d, .convert src dt x, ty, pos, af, none⟩ :: rest) a w := by
  have hr := run_bytes_of_string (P := P) w src dt e (strOf l) hs hd he
  have hrun : (execOp a.eval ⟨some d, .convert src dt x, ty, pos, af, none⟩).run P w = .ok (.value (.slice (some ⟨w.heap.size, 0, none⟩) l.length (grownCap w l.length 0 e)))
      (w.drew.alloc (.cells (bytesRow (strOf l) (grownCap w l.length 0 e)) e ((bytesRow (strOf l) (grownCap w l.length 0 e)).size, (bytesRow (strOf l) (grownCap w l.length 0 e)).size + 1))) := by
    simp only [execOp, ha.ev hx, Sem.run_bind, hr, Result.andThen_ok]; rfl
  have hg1 : w.grownBy w.drew none := ⟨rfl, rfl, rfl, Nat.le_refl _, fun _ _ _ => rfl⟩
  refine sv ha hrun rfl rfl hn fun _ ha' => K _ _ _ ha' ?_ ?_ ?_
  · exact ⟨rfl, rfl, rfl, by simp, fun j hj _ => heap_alloc_old w.drew _ hj⟩
  · have hb : (w.drew.alloc (.cells (bytesRow (strOf l) (grownCap w l.length 0 e)) e ((bytesRow (strOf l) (grownCap w l.length 0 e)).size, (bytesRow (strOf l) (grownCap w l.length 0 e)).size + 1))).heap[w.heap.size]? = some (.cells (l.map e8 ++ List.replicate (grownCap w l.length 0 e - l.length) (Value.int .u8 0)).toArray e ((bytesRow (strOf l) (grownCap w l.length 0 e)).size, (bytesRow (strOf l) (grownCap w l.length 0 e)).size + 1)) := by
      have h := heap_alloc_new w.drew (.cells (bytesRow (strOf l) (grownCap w l.length 0 e)) e ((bytesRow (strOf l) (grownCap w l.length 0 e)).size, (bytesRow (strOf l) (grownCap w l.length 0 e)).size + 1))
      have e1 : bytesRow (strOf l) (grownCap w l.length 0 e) = (l.map e8 ++ List.replicate (grownCap w l.length 0 e - l.length) (Value.int .u8 0)).toArray := by
        unfold bytesRow; rw [strOf_size]; simp [strOf]
      rw [← e1]; exact h
    have := Sl.ofBlockP (cap := grownCap w l.length 0 e) (m := l) hb rfl (List.take_of_length_le (Nat.le_refl _)) (grownCap_ge w l.length 0 e)
    exact this
  · intro j hj
    simp only [Value.ownBlock, Option.some.injEq] at hj
    omega

theorem v_of {s : Sem Next} {p q : Value} (h : s.run P w = .ok (.value p) w) (e : p = q) : s.run P w = .ok (.value q) w := e ▸ h
/-- The address of a struct's field. -/
theorem r_field (ha : Has n env a) {fields : Array Field} {f : Field} {b o k sz : Nat} (hT : ∀ w, (underlying t).run P w = .ok (.struct fields) w) (hf : fields[i]? = some f) (hsz : ∀ w, (sizeOf f.type).run P w = .ok sz w) (h0 : sz ≠ 0) (hk : o + f.offset = k) (hx : ev env x = some (.pointer (some ⟨b, o, none⟩))) :
    (execOp a.eval ⟨dst, .fieldAddr t x i, ty, pos, af, g⟩).run P w = .ok (.value (.pointer (some ⟨b, k, none⟩))) w := by
  subst hk
  simp [execOp, ha.ev hx, Instr.fieldAt, hT, hf, Instr.sureAddr, fieldPlace, hsz, h0, add_zero']
theorem r_nilCheck (ha : Has n env a) {q : Addr} (hx : ev env x = some (.pointer (some q))) : (execOp a.eval ⟨dst, .nilCheck x, ty, pos, af, g⟩).run P w = .ok (.value (.pointer (some q))) w := by
  simp [execOp, ha.ev hx]
theorem r_nilCheckS (ha : Has n env a) {q : Option Addr} {k c : Nat} (hx : ev env x = some (.slice q k c)) : (execOp a.eval ⟨dst, .nilCheck x, ty, pos, af, g⟩).run P w = .ok (.value (.slice q k c)) w := by
  simp [execOp, ha.ev hx]
/-- A pointer against nil. -/
theorem r_eqlP (ha : Has n env a) {q : Option Addr} {e : TypeId} (c : Bool) (hT : ∀ w, (underlying t).run P w = .ok (.pointer e) w) (hx : ev env x = some (.pointer q)) (hy : ev env y = some (.pointer none)) (hc : q.isNone = c) :
    (execOp a.eval ⟨dst, .binOp .eql t x y t', ty, pos, af, g⟩).run P w = .ok (.value (.bool c)) w := by
  subst hc
  have h : ∀ d, (Op.equalIn (d + 1) t (.pointer q) (.pointer none)).run P w = .ok q.isNone w := by
    intro d; cases q <;> simp [Op.equalIn, hT]
  have h := h 9999
  simp only [execOp, ha.ev hx, ha.ev hy, eqGuard, binOp, Op.equal, Op.maxDepth, Sem.run_bind, Sem.run_pure]
  cases q <;> simp_all

/-- A store through an owned slice. -/
theorem r_storeO (ha : Has n env a) {e base k : Nat} {C : List Value} (hx : ev env x = some (ptrOf u i)) (hy : ev env y = some v) (hv : v.oneCell' = true) (hvs : v.cells = #[v]) (hsz : ∀ w, (sizeOf t).run P w = .ok 1 w)
    (hown : w.ownsRow base e 1 u k C) (hi : i < C.length) :
    ∃ w', (execOp a.eval ⟨dst, .store t x y, ty, pos, af, g⟩).run P w = .ok .skip w' ∧ w.grownBy w' u.ownBlock ∧ w'.ownsRow base e 1 u k (C.set i v) := by
  have hk : C.length = k := by have := hown.1; omega
  obtain ⟨b, cap, R, hu, hb, hbase, hl, hcap, hmx⟩ := own_block hown (by omega)
  have hp : ptrOf u i = .pointer (some ⟨b, i, none⟩) := by rw [hu]; show Value.pointer (some ⟨b, 0 + i, none⟩) = _; rw [Nat.zero_add]
  rw [hp] at hx
  have hr := r_store (P := P) (ty := ty) (dst := dst) (pos := pos) (af := af) (g := g) ha hx hy hv hvs hsz hb (by rw [List.length_append]; omega)
  refine ⟨_, hr, ?_, ?_⟩
  · have := grown_setRow w b ((C ++ R).set i v).toArray
    rw [hu]; exact this
  · have hn := setRow_new (D := (C ++ R).set i v) hb
    rw [List.set_append_left _ _ hi] at hn ⊢
    rw [hu]
    exact own_of_block (R := R) hn (by rw [List.length_set]; exact hl) hbase (by rw [List.length_append, List.length_set, ← List.length_append]; exact hcap) hmx
theorem sstoreO (ha : Has n env a) {e base k : Nat} {C : List Value} (hx : ev env x = some (ptrOf u i)) (hy : ev env y = some v) (hv : v.oneCell' = true) (hvs : v.cells = #[v]) (hsz : ∀ w, (sizeOf t).run P w = .ok 1 w)
    (hown : w.ownsRow base e 1 u k C) (hi : i < C.length)
    (K : ∀ a' w', Has n env a' → w.grownBy w' u.ownBlock → w'.ownsRow base e 1 u k (C.set i v) → wpList P ops Q rest a' w') : wpList P ops Q (⟨none, .store t x y, ty, pos, af, none⟩ :: rest) a w := by
  obtain ⟨w', hr, hg, ho⟩ := r_storeO (P := P) (ty := ty) (pos := pos) (af := af) (g := none) (dst := none) ha hx hy hv hvs hsz hown hi
  exact ss ha hr rfl rfl fun _ ha' => K _ _ ha' hg ho
theorem cstoreO (ha : Has n env a) {e base k j : Nat} {C : List Value} (hi : ops[j]? = some ⟨none, .store t x y, ty, pos, af, none⟩) (hc : st.contains j = false) (hx : ev env x = some (ptrOf u i)) (hy : ev env y = some v) (hv : v.oneCell' = true) (hvs : v.cells = #[v]) (hsz : ∀ w, (sizeOf t).run P w = .ok 1 w)
    (hown : w.ownsRow base e 1 u k C) (hii : i < C.length) (hlast : T.contains j = true)
    (K : ∀ a' w', Has n env a' → w.grownBy w' u.ownBlock → w'.ownsRow base e 1 u k (C.set i v) → wpC P ops Q S T st r a' w') : wpC P ops Q S T st (j :: r) a w := by
  obtain ⟨w', hr, hg, ho⟩ := r_storeO (P := P) (ty := ty) (pos := pos) (af := af) (g := none) (dst := none) ha hx hy hv hvs hsz hown hii
  exact cs ha hi hc hr rfl rfl (by rw [hlast]; simp) fun _ ha' => K _ _ ha' hg ho

/-- A box in a region that draws. -/
theorem cbox (ha : Has m env a) {t : TypeId} {C : List Value} (hi : ops[i]? = some ⟨some d, .box t x, ty, pos, af, none⟩) (hc : st.contains i = false) (hx : ev env x = some (.agg C.toArray)) (hn : Nat.blt d m = true) (hS : ∀ w', w.grownBy w' none → S w')
    (k : ∀ a' w' b, Has m ((d, .pointer (some ⟨b, 0, none⟩)) :: env) a' → w.grownBy w' none → w'.heap[b]? = some (.cells C.toArray t (0, 0)) → w.heap.size ≤ b → b < w'.heap.size → wpC P ops Q S T st r a' w') :
    wpC P ops Q S T st (i :: r) a w :=
  cw ha hi hc (r_box ha hx) rfl rfl hn (fun _ => hS _ (grown_alloc w _)) fun _ ha' => k _ _ _ ha' (grown_alloc w _) (heap_alloc_new w _) (Nat.le_refl _) (by simp)

/-- A struct's literal. -/
theorem r_buildSt (ha : Has n env a) {Z C : List Value} {fields : Array Field} {places : Array (Nat × Nat)} (parts : List (Nat × Operand)) (vs : List (Nat × Value)) (hp : evp env parts = some vs) (hz : ∀ w, (zeroValue t).run P w = .ok (.agg Z.toArray) w) (hT : ∀ w, (underlying t).run P w = .ok (.struct fields) w)
    (hpl : ∀ w, (fields.mapM fun f => do pure (f.offset, ← sizeOf f.type) : Sem (Array (Nat × Nat))).run P w = .ok places w) (hf : Instr.fill (places[·]?) Z.toArray vs = some C.toArray) :
    (execOp a.eval ⟨dst, .build t parts.toArray, ty, pos, af, g⟩).run P w = .ok (.value (.agg C.toArray)) w := by
  have h := ha.evp parts vs hp
  have hm : (parts.toArray.map fun p => (p.1, a.eval p.2)) = vs.toArray := by rw [List.map_toArray, h]
  have hb : (Instr.build t vs.toArray).run P w = .ok (.agg C.toArray) w := by
    unfold Instr.build
    simp only [Sem.run_bind, hz, hT, Result.andThen_ok, Value.cells]
    have hpl' := hpl w
    rw [hpl']
    simp only [Result.andThen_ok, hf]
    rfl
  simp only [execOp, hm, Sem.run_bind, hb, Result.andThen_ok]; rfl

/-! ### Carrying on -/
theorem ne_of_ap {b : Nat} (h : ∀ j, v.ownBlock = some j → j ≠ b) : v.ownBlock ≠ some b := fun e => h b e rfl
theorem keepMR {row : Option Nat} {m : Nat} (hg : w.grownBy w' row) (hr : ∀ j, row = some j → j = m ∨ w0.heap.size ≤ j) (h : w0.grownBy w (some m)) : w0.grownBy w' (some m) :=
  ⟨hg.os.trans h.os, hg.tape.trans h.tape, hg.output.trans h.output, Nat.le_trans h.size hg.size, fun k hk hne => (hg.block k (Nat.lt_of_lt_of_le hk h.size) (fun e => by
    rcases hr k e.symm with h1 | h1
    · exact hne (by rw [h1])
    · omega)).trans (h.block k hk hne)⟩
theorem Sl.castM {α : Type} {f : α → Value} {l l' : List α} (h : Sl w v (l.map f)) (e : l = l') : Sl w v (l'.map f) := e ▸ h
theorem own_cast {α : Type} {f : α → Value} {l l' : List α} {base e k k' : Nat} (h : w.ownsRow base e 1 v k (l.map f)) (hk : k = k') (el : l = l') : w.ownsRow base e 1 v k' (l'.map f) := by subst hk; subst el; exact h
theorem own_base {base base' e k : Nat} {C : List Value} (h : w.ownsRow base e 1 v k C) (hb : base' ≤ base) : w.ownsRow base' e 1 v k C :=
  ⟨h.1, h.2.imp id fun ⟨g, c, cur, h1, h2, h3⟩ => ⟨g, c, cur, h1, Nat.le_trans hb h2, h3⟩⟩
theorem own_len {α : Type} {f : α → Value} {l : List α} {base e k : Nat} (h : w.ownsRow base e 1 v k (l.map f)) : w.ownsRow base e 1 v l.length (l.map f) := by
  have : k = l.length := by have := h.1; rw [List.length_map] at this; omega
  subst this; exact h
theorem own_castl {α : Type} {f : α → Value} {l l' : List α} {base e : Nat} (h : w.ownsRow base e 1 v l.length (l.map f)) (el : l = l') : w.ownsRow base e 1 v l'.length (l'.map f) := el ▸ h
theorem own_k {base e k : Nat} {C : List Value} (h : w.ownsRow base e 1 v k C) : C.length = k := by have := h.1; omega
theorem own_row {base e k : Nat} {C : List Value} (h : w.ownsRow base e 1 v k C) : ∀ j, v.ownBlock = some j → base ≤ j := fun j hj => (h.lt j hj).1
theorem Sl.one {C : List Value} (h : Sl w v C) : v.cells = #[v] := by obtain ⟨b, c, hv, _⟩ := h; rw [hv]; rfl
theorem Sl.one' {C : List Value} (h : Sl w v C) : v.oneCell' = true := by obtain ⟨b, c, hv, _⟩ := h; rw [hv]; rfl
theorem Sl.isSl {C : List Value} (h : Sl w v C) : ∃ b c, v = .slice b C.length c := by obtain ⟨b, c, hv, _⟩ := h; exact ⟨b, c, hv⟩
theorem nil_own (j : Nat) (h : Value.ownBlock (.slice none 0 0) = some j) : False := by simp [Value.ownBlock] at h

theorem fill1 {z v1 : Value} (h1 : v1.cells = #[v1]) : Instr.fill (fun i => some (i * 1, 1)) (List.replicate 1 z).toArray [(0, v1)] = some [v1].toArray := by simp [Instr.fill, h1]
theorem fill2 {z v1 v2 : Value} (h1 : v1.cells = #[v1]) (h2 : v2.cells = #[v2]) : Instr.fill (fun i => some (i * 1, 1)) (List.replicate 2 z).toArray [(0, v1), (1, v2)] = some [v1, v2].toArray := by simp [Instr.fill, h1, h2, List.replicate]
theorem fill4 {z v1 v2 v3 v4 : Value} (h1 : v1.cells = #[v1]) (h2 : v2.cells = #[v2]) (h3 : v3.cells = #[v3]) (h4 : v4.cells = #[v4]) : Instr.fill (fun i => some (i * 1, 1)) (List.replicate 4 z).toArray [(0, v1), (1, v2), (2, v3), (3, v4)] = some [v1, v2, v3, v4].toArray := by simp [Instr.fill, h1, h2, h3, h4, List.replicate]

theorem head_set {α : Type} {A D : List α} (B : List α) (h : A.length = D.length) : (A ++ B).take 0 ++ D ++ (A ++ B).drop (0 + D.length) = D ++ B := by simp [← h]
theorem tail_set {α : Type} {A B : List α} {x : α} {k : Nat} (i : Nat) (h : A.length = k) : (A ++ B).set (k + i) x = A ++ B.set i x := by
  subst h; rw [List.set_append_right _ _ (by omega)]; congr 1; rw [Nat.add_sub_cancel_left]
theorem fillX {C : List Value} {w : World} {u : Value} (l : List UInt64) (h : l.length = 25) (r : Nat) (hs : Sl w u C) :
    Instr.fill (#[(0, 25), (25, 1), (26, 1)][·]?) ((List.replicate 25 (0 : UInt64)).map e64 ++ [en 0, .slice none 0 0]).toArray [(0, .agg (l.map e64).toArray), (1, en r), (2, u)] = some (l.map e64 ++ [en r, u]).toArray := by
  obtain ⟨q, c, rfl⟩ := hs.isSl
  match l, h with
  | [x0, x1, x2, x3, x4, x5, x6, x7, x8, x9, x10, x11, x12, x13, x14, x15, x16, x17, x18, x19, x20, x21, x22, x23, x24], _ => show Instr.fill _ _ _ = _; kernel_rfl
theorem drop_take_all {α : Type} (l : List α) (k : Nat) : (l.drop k).take (l.length - k) = l.drop k := List.take_of_length_le (by rw [List.length_drop]; exact Nat.le_refl _)
theorem get_cst {α : Type} {A B : List α} {x : α} {k : Nat} (i : Nat) (h : A.length = k) (hb : B[i]? = some x) : (A ++ B)[k + i]? = some x := by
  subst h; rw [List.getElem?_append_right (by omega)]; rwa [Nat.add_sub_cancel_left]
/-- Rows told one by one. -/
inductive Rows8 (w : World) : List Value → List (List UInt8) → Prop
  | nil : Rows8 w [] []
  | cons {v : Value} {l : List UInt8} {vs : List Value} {ls : List (List UInt8)} : Sl w v (l.map e8) → Rows8 w vs ls → Rows8 w (v :: vs) (l :: ls)
theorem Rows8.len {vs : List Value} {ls : List (List UInt8)} (h : Rows8 w vs ls) : vs.length = ls.length := by induction h with
  | nil => rfl
  | cons _ _ ih => simp [ih]
theorem Rows8.get {vs : List Value} {ls : List (List UInt8)} (h : Rows8 w vs ls) : ∀ i, i < ls.length → ∃ v, vs[i]? = some v ∧ Sl w v ((ls.getD i []).map e8) := by
  induction h with
  | nil => intro i hi; simp at hi
  | @cons v l vs ls h1 h2 ih =>
    intro i hi
    cases i with
    | zero => exact ⟨v, rfl, h1⟩
    | succ i =>
      obtain ⟨u, hu, hs⟩ := ih i (by simpa using hi)
      exact ⟨u, by simpa using hu, by simpa using hs⟩
theorem Rows8.keep {vs : List Value} {ls : List (List UInt8)} (h : Rows8 w vs ls) (hb : Below w.heap.size w w') : Rows8 w' vs ls := by
  induction h with
  | nil => exact .nil
  | cons h1 _ ih => exact .cons (h1.below hb) ih
theorem flat_take (ls : List (List UInt8)) (k : Nat) (h : k < ls.length) : (ls.take (k + 1)).flatten = (ls.take k).flatten ++ ls.getD k [] := by
  rw [List.take_succ_eq_append_getElem h, List.flatten_append]; simp only [List.flatten_cons, List.flatten_nil, List.append_nil, List.getD, List.getElem?_eq_getElem h, Option.getD_some]

theorem flat_le (ls : List (List UInt8)) (k : Nat) (h : k < ls.length) : ((ls.take k).flatten).length + (ls.getD k []).length ≤ ls.flatten.length := by
  rw [← List.length_append, ← flat_take ls k h]
  have : ls.flatten = (ls.take (k + 1)).flatten ++ (ls.drop (k + 1)).flatten := by rw [← List.flatten_append, List.take_append_drop]
  rw [this, List.length_append]; omega
/-! ### Words -/
def umax (p q : UInt64) : UInt64 := if q > p then q else p
def umin (p q : UInt64) : UInt64 := if q < p then q else p
theorem ru_max (ha : Has n env a) (p q : UInt64) {tys : Array TypeId} (hx : ev env x = some (e64 p)) (hy : ev env y = some (e64 q)) :
    (execOp a.eval ⟨dst, .call ⟨.builtin .max, #[x, y], tys⟩, ty, pos, af, g⟩).run P w = .ok (.value (e64 (umax p q))) w := by
  have h : ((q.toNat : Int) > (p.toNat : Int)) ↔ q > p := by rw [gt_iff_lt, gt_iff_lt, UInt64.lt_iff_toNat_lt]; omega
  simp only [execOp, resolve, List.map_toArray, List.map_cons, List.map_nil, ha.ev hx, ha.ev hy, invoke, builtin, Builtin.max_, List.foldlM_cons, List.foldlM_nil, Builtin.max2, Sem.run_bind, Sem.run_pure, Result.andThen_ok, h, umax]
  by_cases hc : q > p
  · simp [hc]
  · simp [hc]
theorem ru_min (ha : Has n env a) (p q : UInt64) {tys : Array TypeId} (hx : ev env x = some (e64 p)) (hy : ev env y = some (e64 q)) :
    (execOp a.eval ⟨dst, .call ⟨.builtin .min, #[x, y], tys⟩, ty, pos, af, g⟩).run P w = .ok (.value (e64 (umin p q))) w := by
  have h : ((q.toNat : Int) < (p.toNat : Int)) ↔ q < p := by rw [UInt64.lt_iff_toNat_lt]; omega
  simp only [execOp, resolve, List.map_toArray, List.map_cons, List.map_nil, ha.ev hx, ha.ev hy, invoke, builtin, Builtin.min_, List.foldlM_cons, List.foldlM_nil, Builtin.min2, Sem.run_bind, Sem.run_pure, Result.andThen_ok, h, umin]
  by_cases hc : q < p
  · simp [hc]
  · simp [hc]
end
end Go.Rx
