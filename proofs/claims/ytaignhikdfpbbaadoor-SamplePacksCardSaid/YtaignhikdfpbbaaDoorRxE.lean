/- The operations of the calculus: conversions, slices. -/
import Derived.Test.YtaignhikdfpbbaaDoorRxD
import Derived.Test.YtaignhikdfpbbaaDoorPk
namespace Go.Rx
open Go.RowKit

theorem whole (C D : List Value) (h : C.length = D.length) : C.take 0 ++ D ++ C.drop (0 + D.length) = D := by simp [h]

theorem inj64 (x y : UInt64) (h : (x.toNat : Int) = y.toNat) : x = y := UInt64.toNat_inj.1 (by omega)
theorem inj8 (x y : UInt8) (h : (x.toNat : Int) = y.toNat) : x = y := UInt8.toNat_inj.1 (by omega)
theorem eql_u64 (x y : UInt64) : decide ((x.toNat : Int) = y.toNat) = decide (x = y) := decide_eq_decide.2 ⟨fun h => UInt64.toNat_inj.1 (by omega), fun h => by rw [h]⟩
theorem neq_u64 (x y : UInt64) : decide ((x.toNat : Int) ≠ y.toNat) = decide (x ≠ y) := decide_eq_decide.2 ⟨fun h e => h (by rw [e]), fun h e => h (UInt64.toNat_inj.1 (by omega))⟩
theorem eql_u8 (x y : UInt8) : decide ((x.toNat : Int) = y.toNat) = decide (x = y) := decide_eq_decide.2 ⟨fun h => UInt8.toNat_inj.1 (by omega), fun h => by rw [h]⟩
theorem neq_u8 (x y : UInt8) : decide ((x.toNat : Int) ≠ y.toNat) = decide (x ≠ y) := decide_eq_decide.2 ⟨fun h e => h (by rw [e]), fun h e => h (UInt8.toNat_inj.1 (by omega))⟩

section arrays
variable {P : Program} {w : World}
theorem run_part1 {e o : Nat} {C : Array Value} {u : Value} (hagg : ∀ w, (isAgg e).run P w = .ok false w) (hu : C[o]? = some u) : (part e C o).run P w = .ok u w := by
  simp [part, hagg, hu]

theorem loop_eq {e d : Nat} {len : Nat} {k : IntKind} (hE : P.underlying e = some (.int k)) (hagg : ∀ w, (isAgg e).run P w = .ok false w) (p q : List Int) (hp : p.length = len) (hq : q.length = len) (F : Nat → Option Bool × Unit → Sem (ForInStep (Option Bool × Unit)))
    (hF : ∀ i s, F i s = (do
        let a ← part e (p.map (Value.int k)).toArray (i * 1)
        let b ← part e (q.map (Value.int k)).toArray (i * 1)
        let r ← Op.equalIn (d + 1) e a b
        if (!r) = true then pure (ForInStep.done (some false, ())) else pure (ForInStep.yield (none, ())))) :
    ∀ (m i : Nat), i + m = len → (forIn (List.range' i m) ((none : Option Bool), ()) F).run P w = .ok (if p.drop i = q.drop i then none else some false, ()) w := by
  intro m
  induction m with
  | zero =>
    intro i hi
    rw [List.drop_of_length_le (by omega), List.drop_of_length_le (by omega)]
    simp
  | succ m ih =>
    intro i hi
    have h1 : i < p.length := by omega
    have h2 : i < q.length := by omega
    rw [List.range'_succ, List.forIn_cons, hF]
    have e1 : (part e (p.map (Value.int k)).toArray (i * 1)).run P w = .ok (.int k p[i]) w := run_part1 hagg (by simp [h1])
    have e2 : (part e (q.map (Value.int k)).toArray (i * 1)).run P w = .ok (.int k q[i]) w := run_part1 hagg (by simp [h2])
    simp only [Sem.run_bind, e1, e2, Result.andThen_ok, run_equalIn_int w d e k k _ _ hE]
    by_cases hpq : p[i] = q[i]
    · have hd : (p.drop i = q.drop i) ↔ (p.drop (i + 1) = q.drop (i + 1)) := by
        rw [List.drop_eq_getElem_cons h1, List.drop_eq_getElem_cons h2]; simp only [hpq, List.cons.injEq, true_and]
      have := ih (i + 1) (by omega)
      simp only [hpq, beq_self_eq_true, Bool.not_true, Bool.false_eq_true, if_false, Sem.run_pure, Result.andThen_ok, hd]
      exact this
    · have hd : ¬ (p.drop i = q.drop i) := by
        rw [List.drop_eq_getElem_cons h1, List.drop_eq_getElem_cons h2]; intro h; simp only [List.cons.injEq] at h; exact hpq h.1
      simp [hpq, hd]

theorem run_equalArr {t e d len : Nat} {k : IntKind} (p q : List Int) (hp : p.length = len) (hq : q.length = len) (hT : ∀ w, (underlying t).run P w = .ok (.array len e) w) (hsz : ∀ w, (sizeOf e).run P w = .ok 1 w) (hE : P.underlying e = some (.int k)) (hagg : ∀ w, (isAgg e).run P w = .ok false w) :
    (Op.equalIn (d+2) t (.agg (p.map (Value.int k)).toArray) (.agg (q.map (Value.int k)).toArray)).run P w = .ok (decide (p = q)) w := by
  rw [Op.equalIn]
  simp only [Sem.run_bind, hT, hsz, Result.andThen_ok]
  rw [Std.Legacy.Range.forIn_eq_forIn_range']
  simp only [Std.Legacy.Range.size, Nat.sub_zero, Nat.add_sub_cancel, Nat.div_one]
  have h := loop_eq (P := P) (w := w) (d := d) hE hagg p q hp hq _ (fun i s => rfl) len 0 (by omega)
  rw [h]
  by_cases hpq : p = q <;> simp [hpq]

section
variable {n : Nat} {env : Env} {a : Act} {dst : Option Tmp} {ty : TypeId} {pos : String} {af : Array Edge} {g : Option (Nat × Bool)} {x y z : Operand} {t t' : TypeId} {v : Value}
theorem run_eqArr {e len : Nat} {k : IntKind} (p q : List Int) (hp : p.length = len) (hq : q.length = len) (hT : ∀ w, (underlying t).run P w = .ok (.array len e) w) (hsz : ∀ w, (sizeOf e).run P w = .ok 1 w) (hE : P.underlying e = some (.int k)) (hagg : ∀ w, (isAgg e).run P w = .ok false w) :
    (binOp .eql t (.agg (p.map (Value.int k)).toArray) (.agg (q.map (Value.int k)).toArray)).run P w = .ok (.bool (decide (p = q))) w := by
  have h := run_equalArr (P := P) (w := w) (d := 9998) p q hp hq hT hsz hE hagg
  simp only [binOp, Op.equal, Op.maxDepth, Sem.run_bind, h, Result.andThen_ok]
  simp

theorem r_eqA {α : Type} [DecidableEq α] {f : α → Int} {e len : Nat} {k : IntKind} (hf : ∀ x y : α, f x = f y → x = y) (p q : List α) (ha : Has n env a) (hx : ev env x = some (.agg (p.map fun z => Value.int k (f z)).toArray)) (hy : ev env y = some (.agg (q.map fun z => Value.int k (f z)).toArray)) (hp : p.length = len) (hq : q.length = len)
    (hG : P.eqGuardType P.depth t = false) (hT : ∀ w, (underlying t).run P w = .ok (.array len e) w) (hsz : ∀ w, (sizeOf e).run P w = .ok 1 w) (hE : P.underlying e = some (.int k)) (hagg : ∀ w, (isAgg e).run P w = .ok false w) (c : Bool) (hc : decide (p = q) = c) :
    (execOp a.eval ⟨dst, .binOp .eql t x y t', ty, pos, af, g⟩).run P w = .ok (.value (.bool c)) w := by
  subst hc
  have h := run_eqArr (P := P) (w := w) (t := t) (k := k) (p.map f) (q.map f) (by simpa using hp) (by simpa using hq) hT hsz hE hagg
  have hinj : (p.map f = q.map f) ↔ (p = q) := ⟨fun e => List.map_inj_right (fun x y h => hf x y h) |>.1 e, fun e => by rw [e]⟩
  simp only [List.map_map, hinj] at h
  have e0 : (eqGuard .eql t x y (.agg (p.map fun z => Value.int k (f z)).toArray) (.agg (q.map fun z => Value.int k (f z)).toArray)).run P w = .ok () w := by
    simp [eqGuard, hG]
  simp only [execOp, ha.ev hx, ha.ev hy, Sem.run_bind, e0, Result.andThen_ok]
  have h' : (binOp .eql t (.agg (p.map fun z => Value.int k (f z)).toArray) (.agg (q.map fun z => Value.int k (f z)).toArray)).run P w = .ok (.bool (decide (p = q))) w := h
  rw [h']
  simp
end
end arrays

section
variable {P : Program} {n : Nat} {env : Env} {a : Act} {w w' : World} {dst : Option Tmp} {ty : TypeId} {pos : String} {af : Array Edge} {g : Option (Nat × Bool)} {x y z : Operand} {t t' : TypeId} {v : Value}

theorem n_of {s : Sem Next} {p : Int} {k : Nat} (h : s.run P w = .ok (.value (ei p)) w) (e : p = (k : Int)) : s.run P w = .ok (.value (en k)) w := by subst e; exact h
theorem z_of {s : Sem Next} {p k : Int} (h : s.run P w = .ok (.value (ei p)) w) (e : p = k) : s.run P w = .ok (.value (ei k)) w := by subst e; exact h

/-! ### Conversions -/
theorem r_conv_int (ha : Has n env a) {k f : IntKind} {s d : TypeId} {m r : Int} (hs : ∀ w, (underlying s).run P w = .ok (.int f) w) (hd : ∀ w, (underlying d).run P w = .ok (.int k) w) (hx : ev env x = some (.int f m)) (hr : k.wrap m = r) :
    (execOp a.eval ⟨dst, .convert s d x, ty, pos, af, g⟩).run P w = .ok (.value (.int k r)) w := by
  subst hr; simp [execOp, ha.ev hx, convert, hs, hd, Conv.intToInt]
theorem r_conv_u8_i64 (ha : Has n env a) (p : UInt8) {s d : TypeId} (hs : ∀ w, (underlying s).run P w = .ok (.int .u8) w) (hd : ∀ w, (underlying d).run P w = .ok (.int .i64) w) (hx : ev env x = some (e8 p)) :
    (execOp a.eval ⟨dst, .convert s d x, ty, pos, af, g⟩).run P w = .ok (.value (en p.toNat)) w :=
  r_conv_int ha hs hd hx (i64_in (by omega) (by have := lt8 p; omega))
theorem r_conv_u32_i64 (ha : Has n env a) (p : UInt32) {s d : TypeId} (hs : ∀ w, (underlying s).run P w = .ok (.int .u32) w) (hd : ∀ w, (underlying d).run P w = .ok (.int .i64) w) (hx : ev env x = some (e32 p)) :
    (execOp a.eval ⟨dst, .convert s d x, ty, pos, af, g⟩).run P w = .ok (.value (en p.toNat)) w :=
  r_conv_int ha hs hd hx (i64_in (by omega) (by have := lt32 p; omega))
theorem r_conv_u64_i64 (ha : Has n env a) (p : UInt64) {s d : TypeId} (hs : ∀ w, (underlying s).run P w = .ok (.int .u64) w) (hd : ∀ w, (underlying d).run P w = .ok (.int .i64) w) (hx : ev env x = some (e64 p)) (hp : p.toNat ≤ 9223372036854775807) :
    (execOp a.eval ⟨dst, .convert s d x, ty, pos, af, g⟩).run P w = .ok (.value (en p.toNat)) w :=
  r_conv_int ha hs hd hx (i64_in (by omega) (by omega))
theorem r_conv_n_u64 (ha : Has n env a) (p : Nat) {s d : TypeId} (hs : ∀ w, (underlying s).run P w = .ok (.int .i64) w) (hd : ∀ w, (underlying d).run P w = .ok (.int .u64) w) (hx : ev env x = some (en p)) (hp : p ≤ 9223372036854775807) :
    (execOp a.eval ⟨dst, .convert s d x, ty, pos, af, g⟩).run P w = .ok (.value (.int .u64 (p : Int))) w :=
  r_conv_int ha hs hd hx (wrap_u64 (by omega) (by omega))
theorem r_conv_n_u8w (ha : Has n env a) (p : Nat) {s d : TypeId} (hs : ∀ w, (underlying s).run P w = .ok (.int .i64) w) (hd : ∀ w, (underlying d).run P w = .ok (.int .u8) w) (hx : ev env x = some (en p)) :
    (execOp a.eval ⟨dst, .convert s d x, ty, pos, af, g⟩).run P w = .ok (.value (e8 (UInt8.ofNat p))) w :=
  r_conv_int ha hs hd hx (by rw [mod_u8, UInt8.toNat_ofNat']; simp)
theorem r_conv_n_u32w (ha : Has n env a) (p : Nat) {s d : TypeId} (hs : ∀ w, (underlying s).run P w = .ok (.int .i64) w) (hd : ∀ w, (underlying d).run P w = .ok (.int .u32) w) (hx : ev env x = some (en p)) :
    (execOp a.eval ⟨dst, .convert s d x, ty, pos, af, g⟩).run P w = .ok (.value (e32 (UInt32.ofNat p))) w :=
  r_conv_int ha hs hd hx (by rw [mod_u32, UInt32.toNat_ofNat']; simp)
theorem r_conv_n_u64w (ha : Has n env a) (p : Nat) {s d : TypeId} (hs : ∀ w, (underlying s).run P w = .ok (.int .i64) w) (hd : ∀ w, (underlying d).run P w = .ok (.int .u64) w) (hx : ev env x = some (en p)) :
    (execOp a.eval ⟨dst, .convert s d x, ty, pos, af, g⟩).run P w = .ok (.value (e64 (UInt64.ofNat p))) w :=
  r_conv_int ha hs hd hx (by rw [mod_u64, UInt64.toNat_ofNat']; simp)
theorem r_conv_u8_u64 (ha : Has n env a) (p : UInt8) {s d : TypeId} (hs : ∀ w, (underlying s).run P w = .ok (.int .u8) w) (hd : ∀ w, (underlying d).run P w = .ok (.int .u64) w) (hx : ev env x = some (e8 p)) :
    (execOp a.eval ⟨dst, .convert s d x, ty, pos, af, g⟩).run P w = .ok (.value (e64 p.toUInt64)) w :=
  r_conv_int ha hs hd hx (by rw [UInt8.toNat_toUInt64]; exact wrap_u64 (by omega) (by have := lt8 p; omega))
theorem r_conv_u64_u8 (ha : Has n env a) (p : UInt64) {s d : TypeId} (hs : ∀ w, (underlying s).run P w = .ok (.int .u64) w) (hd : ∀ w, (underlying d).run P w = .ok (.int .u8) w) (hx : ev env x = some (e64 p)) :
    (execOp a.eval ⟨dst, .convert s d x, ty, pos, af, g⟩).run P w = .ok (.value (e8 p.toUInt8)) w :=
  r_conv_int ha hs hd hx (by rw [mod_u8, UInt64.toNat_toUInt8]; omega)
theorem r_conv_u32_u64 (ha : Has n env a) (p : UInt32) {s d : TypeId} (hs : ∀ w, (underlying s).run P w = .ok (.int .u32) w) (hd : ∀ w, (underlying d).run P w = .ok (.int .u64) w) (hx : ev env x = some (e32 p)) :
    (execOp a.eval ⟨dst, .convert s d x, ty, pos, af, g⟩).run P w = .ok (.value (e64 p.toUInt64)) w :=
  r_conv_int ha hs hd hx (by rw [UInt32.toNat_toUInt64]; exact wrap_u64 (by omega) (by have := lt32 p; omega))
theorem r_conv_u64_u32 (ha : Has n env a) (p : UInt64) {s d : TypeId} (hs : ∀ w, (underlying s).run P w = .ok (.int .u64) w) (hd : ∀ w, (underlying d).run P w = .ok (.int .u32) w) (hx : ev env x = some (e64 p)) :
    (execOp a.eval ⟨dst, .convert s d x, ty, pos, af, g⟩).run P w = .ok (.value (e32 p.toUInt32)) w :=
  r_conv_int ha hs hd hx (by rw [mod_u32, UInt64.toNat_toUInt32]; omega)

theorem rn_min (ha : Has n env a) (p q : Nat) {tys : Array TypeId} (hx : ev env x = some (en p)) (hy : ev env y = some (en q)) :
    (execOp a.eval ⟨dst, .call ⟨.builtin .min, #[x, y], tys⟩, ty, pos, af, g⟩).run P w = .ok (.value (en (min p q))) w := by
  simp [execOp, resolve, ha.ev hx, ha.ev hy, invoke, builtin, Builtin.min_, Builtin.min2]
  omega
theorem rn_max (ha : Has n env a) (p q : Nat) {tys : Array TypeId} (hx : ev env x = some (en p)) (hy : ev env y = some (en q)) :
    (execOp a.eval ⟨dst, .call ⟨.builtin .max, #[x, y], tys⟩, ty, pos, af, g⟩).run P w = .ok (.value (en (max p q))) w := by
  simp [execOp, resolve, ha.ev hx, ha.ev hy, invoke, builtin, Builtin.max_, Builtin.max2]
  omega
theorem r_min (ha : Has n env a) (p q : Int) {tys : Array TypeId} (hx : ev env x = some (ei p)) (hy : ev env y = some (ei q)) :
    (execOp a.eval ⟨dst, .call ⟨.builtin .min, #[x, y], tys⟩, ty, pos, af, g⟩).run P w = .ok (.value (ei (min p q))) w := by
  simp [execOp, resolve, ha.ev hx, ha.ev hy, invoke, builtin, Builtin.min_, Builtin.min2]
  omega
theorem r_max (ha : Has n env a) (p q : Int) {tys : Array TypeId} (hx : ev env x = some (ei p)) (hy : ev env y = some (ei q)) :
    (execOp a.eval ⟨dst, .call ⟨.builtin .max, #[x, y], tys⟩, ty, pos, af, g⟩).run P w = .ok (.value (ei (max p q))) w := by
  simp [execOp, resolve, ha.ev hx, ha.ev hy, invoke, builtin, Builtin.max_, Builtin.max2]
  omega

/-! ### A u64 told by a number -/
theorem rx_mask (ha : Has n env a) (p : Nat) (j : Nat) (hj : j ≤ 62) {m : Nat} (hm : m = 2 ^ j - 1) (hp : p ≤ 9223372036854775807) (hx : ev env x = some (.int .u64 (p : Int))) (hy : ev env y = some (.int .u64 (m : Int))) :
    (execOp a.eval ⟨dst, .binOp .and t x y t', ty, pos, af, g⟩).run P w = .ok (.value (.int .u64 ((p % 2 ^ j : Nat) : Int))) w := by
  subst hm
  have e : (BitVec.ofInt 64 (p : Int) &&& BitVec.ofInt 64 ((2 ^ j - 1 : Nat) : Int)).toNat = p % 2 ^ j := by
    rw [toNat_mask _ _ (by omega), ← Int.natCast_emod, Int.toNat_natCast]
  have h2 : p % 2 ^ j ≤ p := Nat.mod_le _ _
  have e3 : ∀ r : Nat, r ≤ p → IntKind.u64.wrap (r : Int) = r := fun r hr => wrap_u64 (by omega) (by omega)
  have h : Op.intBits .and .u64 (p : Int) ((2 ^ j - 1 : Nat) : Int) = pure (.int .u64 ((p % 2 ^ j : Nat) : Int)) := by
    have e4 : IntKind.u64.wrap (((BitVec.ofInt 64 (p : Int) &&& BitVec.ofInt 64 ((2 ^ j - 1 : Nat) : Int)).toNat : Nat) : Int) = ((p % 2 ^ j : Nat) : Int) := by rw [e]; exact e3 _ h2
    exact congrArg (fun z => pure (Value.int .u64 z)) e4
  simp only [execOp, ha.ev hx, ha.ev hy, binOp, h]
  simp [eqGuard]
theorem rx_sub (ha : Has n env a) (p q : Nat) (hx : ev env x = some (.int .u64 (p : Int))) (hy : ev env y = some (.int .u64 (q : Int))) (h : q ≤ p) (hp : p ≤ 18446744073709551615) :
    (execOp a.eval ⟨dst, .binOp .sub t x y t', ty, pos, af, g⟩).run P w = .ok (.value (.int .u64 ((p - q : Nat) : Int))) w := by
  have e : IntKind.u64.wrap ((p : Int) - (q : Int)) = ((p - q : Nat) : Int) := by rw [wrap_u64 (by omega) (by omega)]; omega
  simp [execOp, ha.ev hx, ha.ev hy, eqGuard, binOp, Op.intArith, e]
theorem rx_add (ha : Has n env a) (p q : Nat) (hx : ev env x = some (.int .u64 (p : Int))) (hy : ev env y = some (.int .u64 (q : Int))) (h : p + q ≤ 18446744073709551615) :
    (execOp a.eval ⟨dst, .binOp .add t x y t', ty, pos, af, g⟩).run P w = .ok (.value (.int .u64 ((p + q : Nat) : Int))) w := by
  have e : IntKind.u64.wrap ((p : Int) + (q : Int)) = ((p + q : Nat) : Int) := by rw [wrap_u64 (by omega) (by omega)]; omega
  simp only [execOp, ha.ev hx, ha.ev hy, eqGuard, binOp, Op.intArith, e]
  simp
theorem ru_shrG (ha : Has n env a) (p : UInt64) {k : IntKind} (q : Nat) (hx : ev env x = some (e64 p)) (hy : ev env y = some (.int k q)) :
    (execOp a.eval ⟨dst, .binOp .shr t x y t', ty, pos, af, g⟩).run P w = .ok (.value (e64 (shrG p q))) w := by
  by_cases hq : q < 64
  · have e : shrG p q = p >>> UInt64.ofNat q := if_neg (by omega)
    rw [e]; exact ru_shr ha p q hx hy hq
  · have e0 : shrG p q = 0 := if_pos (by omega)
    have e : Int.fdiv (p.toNat : Int) (2 ^ 64) = 0 := by
      rw [Int.fdiv_eq_ediv_of_nonneg _ (by decide)]; have := lt64 p; omega
    have h : Op.shift .shr .u64 (p.toNat : Int) k (q : Int) = pure (e64 0) := by
      unfold Op.shift
      rw [if_neg (by omega)]
      simp only [Int.toNat_natCast, IntKind.bits, show min q 64 = 64 by omega, e]
      rfl
    rw [e0]
    simp only [execOp, ha.ev hx, ha.ev hy, binOp, h]
    simp [eqGuard]

/-! ### Slices of one-cell elements -/
/-- In w the slice value v reads as the cells C. -/
def Sl (w : World) (v : Value) (C : List Value) : Prop :=
  ∃ a cap, v = .slice a C.length cap ∧ C.length ≤ cap ∧ (∀ x, a = some x → x.spot = none ∧ x.block < w.heap.size ∧ ∀ j u, C[j]? = some u → w.cell? ⟨x.block, x.off + j, none⟩ = some u) ∧ (a = none → C = [] ∧ cap = 0)

def ptrOf (v : Value) (i : Nat) : Value :=
  match v with
  | .slice (some a) _ _ => .pointer (some ⟨a.block, a.off + i, none⟩)
  | _ => undef

/-- The block of a slice lies from lo on and ahead of hi. -/
def Bd (v : Value) (lo hi : Nat) : Prop := ∀ k, v.ownBlock = some k → lo ≤ k ∧ k < hi

theorem Sl.same {C : List Value} (h : Sl w v C) (hs : w.heap.size ≤ w'.heap.size) (hb : ∀ k, v.ownBlock = some k → w'.heap[k]? = w.heap[k]?) : Sl w' v C := by
  obtain ⟨a, cap, hv, hc, hx, hn⟩ := h
  refine ⟨a, cap, hv, hc, fun x e => ?_, hn⟩
  subst e
  obtain ⟨h1, h2, h3⟩ := hx x rfl
  have hk := hb x.block (by rw [hv]; rfl)
  refine ⟨h1, Nat.lt_of_lt_of_le h2 hs, fun j u hu => ?_⟩
  rw [World.cell?_of_block (w := w) (a := ⟨x.block, x.off + j, none⟩) hk]
  exact h3 j u hu

theorem Sl.lt {C : List Value} (h : Sl w v C) : ∀ k, v.ownBlock = some k → k < w.heap.size := by
  intro k hk
  obtain ⟨a, cap, hv, hc, hx, hn⟩ := h
  cases a with
  | none => rw [hv] at hk; simp [Value.ownBlock] at hk
  | some x => rw [hv] at hk; simp [Value.ownBlock] at hk; rw [← hk]; exact (hx x rfl).2.1

theorem Sl.below {C : List Value} (h : Sl w v C) (hb : Below w.heap.size w w') : Sl w' v C := h.same hb.size fun k hk => hb.block k (h.lt k hk)
theorem keepS0 {C : List Value} (hg : w.grownBy w' none) (h : Sl w v C) : Sl w' v C := h.same hg.size fun k hk => hg.block k (h.lt k hk) (by simp)
theorem keepS1 {C : List Value} {b : Nat} (hg : w.grownBy w' (some b)) (hne : v.ownBlock ≠ some b) (h : Sl w v C) : Sl w' v C :=
  h.same hg.size fun k hk => hg.block k (h.lt k hk) (by intro e; exact hne (by rw [hk, e]))

theorem Sl.nil (w : World) : Sl w (.slice none 0 0) [] := ⟨none, 0, rfl, Nat.le_refl _, fun x e => (by cases e), fun _ => ⟨rfl, rfl⟩⟩

/-- A slice over the head of a block. -/
theorem Sl.ofBlock {b t cap : Nat} {C D : List Value} {fr : Nat × Nat} (hb : w.heap[b]? = some (.cells D.toArray t fr)) (hc : D.take C.length = C) (hcap : C.length ≤ cap) : Sl w (.slice (some ⟨b, 0, none⟩) C.length cap) C :=
  ⟨_, cap, rfl, hcap, fun x e => (by cases e; exact ⟨rfl, lt_of_block hb, cells_of 0 hb (by simpa using hc)⟩), fun e => (by cases e)⟩

theorem Sl.ofBlockP {α : Type} {f : α → Value} {l m : List α} {b t cap k : Nat} {R : List Value} {fr : Nat × Nat} (hb : w.heap[b]? = some (.cells (l.map f ++ R).toArray t fr)) (hm : m.length = k) (hl : l.take k = m) (hcap : k ≤ cap) : Sl w (.slice (some ⟨b, 0, none⟩) k cap) (m.map f) := by
  subst hm
  have h1 : m.length ≤ l.length := by rw [← hl, List.length_take]; omega
  have := Sl.ofBlock (w := w) (cap := cap) (C := m.map f) hb (by rw [List.length_map, List.take_append_of_le_length (by simpa using h1), ← List.map_take, hl]) (by simpa using hcap)
  simpa using this
theorem Sl.ofBlockM {α : Type} {f : α → Value} {l : List α} {b t cap m : Nat} {fr : Nat × Nat} (hb : w.heap[b]? = some (.cells (l.map f).toArray t fr)) (hm : l.length = m) (hcap : m ≤ cap) : Sl w (.slice (some ⟨b, 0, none⟩) m cap) (l.map f) :=
  Sl.ofBlockP (R := []) (l := l) (by simpa using hb) hm (by rw [← hm]; exact List.take_length) hcap

theorem r_lenS (ha : Has n env a) {e : TypeId} {m : Nat} {C : List Value} (hT : ∀ w, (underlying t).run P w = .ok (.slice e) w) (hs : Sl w v C) (hx : ev env x = some v) (hm : C.length = m) :
    (execOp a.eval ⟨dst, .call ⟨.builtin .len, #[x], #[t]⟩, ty, pos, af, g⟩).run P w = .ok (.value (en m)) w := by
  obtain ⟨b, cap, hv, -⟩ := hs
  subst hm
  simp [execOp, resolve, ha.ev hx, invoke, builtin, Builtin.len_, hT, hv, goInt]
theorem r_lenB (ha : Has n env a) {e b m c : Nat} (hT : ∀ w, (underlying t).run P w = .ok (.slice e) w) (hx : ev env x = some (.slice (some ⟨b, 0, none⟩) m c)) :
    (execOp a.eval ⟨dst, .call ⟨.builtin .len, #[x], #[t]⟩, ty, pos, af, g⟩).run P w = .ok (.value (en m)) w := by
  simp [execOp, resolve, ha.ev hx, invoke, builtin, Builtin.len_, hT, goInt]

theorem r_indexS (ha : Has n env a) {e i : Nat} {C : List Value} (hT : ∀ w, (underlying t).run P w = .ok (.slice e) w) (hsz : ∀ w, (sizeOf e).run P w = .ok 1 w) (hs : Sl w v C) (hx : ev env x = some v) (hy : ev env y = some (en i)) (hi : i < C.length) :
    (execOp a.eval ⟨dst, .indexAddr t x y, ty, pos, af, g⟩).run P w = .ok (.value (ptrOf v i)) w := by
  obtain ⟨b, cap, hv, hc, hb, hn⟩ := hs
  cases b with
  | none => have := (hn rfl).1; rw [this] at hi; simp at hi
  | some q =>
    obtain ⟨h1, h2, h3⟩ := hb q rfl
    obtain ⟨qb, qo, qs⟩ := q
    simp only at h1
    subst h1
    have h4 : (0 : Int) ≤ (i : Int) ∧ (i : Int) < (C.length : Int) := ⟨by omega, by omega⟩
    simp [execOp, ha.ev hx, ha.ev hy, Instr.indexAt, asIntOf, hT, hsz, hv, h4, hi, ptrOf, add_zero']
theorem r_indexB (ha : Has n env a) {e b m c : Nat} (i : Nat) (hT : ∀ w, (underlying t).run P w = .ok (.slice e) w) (hsz : ∀ w, (sizeOf e).run P w = .ok 1 w) (hx : ev env x = some (.slice (some ⟨b, 0, none⟩) m c)) (hy : ev env y = some (en i)) (hi : i < m) :
    (execOp a.eval ⟨dst, .indexAddr t x y, ty, pos, af, g⟩).run P w = .ok (.value (.pointer (some ⟨b, i, none⟩))) w := by
  have h4 : (0 : Int) ≤ (i : Int) ∧ (i : Int) < (m : Int) := ⟨by omega, by omega⟩
  simp [execOp, ha.ev hx, ha.ev hy, Instr.indexAt, asIntOf, hT, hsz, h4, hi, add_zero']
theorem r_loadS (ha : Has n env a) {i : Nat} {C : List Value} {u : Value} (hx : ev env x = some (ptrOf v i)) (hagg : ∀ w, (isAgg t).run P w = .ok false w) (hs : Sl w v C) (hc : C[i]? = some u) :
    (execOp a.eval ⟨dst, .load t x, ty, pos, af, g⟩).run P w = .ok (.value u) w := by
  obtain ⟨b, cap, hv, hcap, hb, hn⟩ := hs
  cases b with
  | none => have := (hn rfl).1; rw [this] at hc; simp at hc
  | some q =>
    obtain ⟨h1, h2, h3⟩ := hb q rfl
    have hp : ptrOf v i = .pointer (some ⟨q.block, q.off + i, none⟩) := by rw [hv]; rfl
    rw [hp] at hx
    exact r_load ha hx hagg (h3 i u hc)
end
end Go.Rx
