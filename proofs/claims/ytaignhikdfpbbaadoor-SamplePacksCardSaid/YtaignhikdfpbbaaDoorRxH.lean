/- Still more operations: signs as masks, u64 told by numbers, an array value's element. -/
import Derived.Test.YtaignhikdfpbbaaDoorRxG
namespace Go.Rx
open Go.RowKit Go.Instr

section
variable {P : Program} {n : Nat} {env : Env} {a : Act} {w w' : World} {dst : Option Tmp} {ty : TypeId} {pos : String} {af : Array Edge} {g : Option (Nat × Bool)} {x y z : Operand} {t t' : TypeId} {v : Value}

theorem and_ones (q : Nat) (hq : q ≤ 9223372036854775807) : (BitVec.ofInt 64 (q : Int) &&& BitVec.ofInt 64 (-1)).toNat = q := by
  have h1 : BitVec.ofInt 64 (-1) = BitVec.allOnes 64 := by decide
  rw [h1, BitVec.and_allOnes]; simp; omega
theorem and_zeros (q : Int) : (BitVec.ofInt 64 q &&& BitVec.ofInt 64 0).toNat = 0 := by
  have h1 : BitVec.ofInt 64 0 = 0#64 := by decide
  rw [h1, BitVec.and_zero]; rfl
/-- 'q & (p >> 63)': q where p is below nought, else nought. -/
theorem r_andS (ha : Has n env a) (q : Nat) (p s : Int) (hq : q ≤ 9223372036854775807) (hx : ev env x = some (en q)) (hy : ev env y = some (ei (p / 2 ^ 63))) (hp : -9223372036854775808 ≤ p ∧ p ≤ 9223372036854775807) (hs : s = if p < 0 then (q : Int) else 0) :
    (execOp a.eval ⟨dst, .binOp .and t x y t', ty, pos, af, g⟩).run P w = .ok (.value (ei s)) w := by
  subst hs
  have h : Op.intBits .and .i64 (q : Int) (p / 2 ^ 63) = pure (ei (if p < 0 then (q : Int) else 0)) := by
    by_cases h0 : p < 0
    · have e : p / 2 ^ 63 = -1 := by omega
      rw [e, if_pos h0]
      have e3 : IntKind.i64.wrap (((BitVec.ofInt 64 (q : Int) &&& BitVec.ofInt 64 (-1)).toNat : Nat) : Int) = (q : Int) := by rw [and_ones q hq]; exact i64_in (by omega) (by omega)
      exact congrArg (fun z => pure (Value.int .i64 z)) e3
    · have e : p / 2 ^ 63 = 0 := by omega
      rw [e, if_neg h0]
      have e3 : IntKind.i64.wrap (((BitVec.ofInt 64 (q : Int) &&& BitVec.ofInt 64 0).toNat : Nat) : Int) = 0 := by rw [and_zeros]; exact i64_in (by omega) (by omega)
      exact congrArg (fun z => pure (Value.int .i64 z)) e3
  simp only [execOp, ha.ev hx, ha.ev hy, binOp, h]
  simp [eqGuard]
theorem rw_mul (ha : Has n env a) (p q : UInt32) (hx : ev env x = some (e32 p)) (hy : ev env y = some (e32 q)) :
    (execOp a.eval ⟨dst, .binOp .mul t x y t', ty, pos, af, g⟩).run P w = .ok (.value (e32 (p * q))) w := by
  have e : IntKind.u32.wrap ((p.toNat : Int) * q.toNat) = ((p * q).toNat : Int) := by rw [mod_u32, UInt32.toNat_mul]; simp
  simp [execOp, ha.ev hx, ha.ev hy, eqGuard, binOp, Op.intArith, e, -UInt32.toNat_mul]
theorem rw_add (ha : Has n env a) (p q : UInt32) (hx : ev env x = some (e32 p)) (hy : ev env y = some (e32 q)) :
    (execOp a.eval ⟨dst, .binOp .add t x y t', ty, pos, af, g⟩).run P w = .ok (.value (e32 (p + q))) w := by
  have e : IntKind.u32.wrap ((p.toNat : Int) + q.toNat) = ((p + q).toNat : Int) := by rw [mod_u32, UInt32.toNat_add]; omega
  simp [execOp, ha.ev hx, ha.ev hy, eqGuard, binOp, Op.intArith, e, -UInt32.toNat_add]
theorem ru_mul (ha : Has n env a) (p q : UInt64) (hx : ev env x = some (e64 p)) (hy : ev env y = some (e64 q)) :
    (execOp a.eval ⟨dst, .binOp .mul t x y t', ty, pos, af, g⟩).run P w = .ok (.value (e64 (p * q))) w := by
  have e : IntKind.u64.wrap ((p.toNat : Int) * q.toNat) = ((p * q).toNat : Int) := by rw [mod_u64, UInt64.toNat_mul]; simp
  simp [execOp, ha.ev hx, ha.ev hy, eqGuard, binOp, Op.intArith, e, -UInt64.toNat_mul]
theorem rw_rem (ha : Has n env a) (p q : UInt32) (hx : ev env x = some (e32 p)) (hy : ev env y = some (e32 q)) (hq : 0 < q.toNat) :
    (execOp a.eval ⟨dst, .binOp .rem t x y t', ty, pos, af, g⟩).run P w = .ok (.value (e32 (p % q))) w := by
  have h0 : ¬ ((q.toNat : Int) = 0) := by omega
  have h1 : ((p.toNat : Int)).tmod q.toNat = ((p % q).toNat : Int) := by rw [UInt32.toNat_mod]; rfl
  simp only [execOp, ha.ev hx, ha.ev hy, eqGuard, binOp, Op.intDiv, h1, if_neg h0]
  simp
theorem rx_mul (ha : Has n env a) (p q : Nat) (hx : ev env x = some (.int .u64 (p : Int))) (hy : ev env y = some (.int .u64 (q : Int))) (h : p * q ≤ 18446744073709551615) :
    (execOp a.eval ⟨dst, .binOp .mul t x y t', ty, pos, af, g⟩).run P w = .ok (.value (.int .u64 ((p * q : Nat) : Int))) w := by
  have e : IntKind.u64.wrap ((p : Int) * (q : Int)) = ((p * q : Nat) : Int) := by
    rw [← Int.natCast_mul]; exact wrap_u64 (by omega) (by omega)
  simp only [execOp, ha.ev hx, ha.ev hy, eqGuard, binOp, Op.intArith, e]
  simp
theorem rx_shr (ha : Has n env a) (p : Nat) {k : IntKind} (q : Nat) (hx : ev env x = some (.int .u64 (p : Int))) (hy : ev env y = some (.int k q)) (hq : q < 64) :
    (execOp a.eval ⟨dst, .binOp .shr t x y t', ty, pos, af, g⟩).run P w = .ok (.value (.int .u64 ((p >>> q : Nat) : Int))) w := by
  have h : Op.shift .shr .u64 (p : Int) k (q : Int) = pure (.int .u64 ((p >>> q : Nat) : Int)) := by
    unfold Op.shift
    rw [if_neg (by omega)]
    simp only [Int.toNat_natCast, IntKind.bits, show min q 64 = q by omega, fdiv_nat]
  simp only [execOp, ha.ev hx, ha.ev hy, binOp, h]
  simp [eqGuard]
theorem rx_rem (ha : Has n env a) (p q : Nat) (hx : ev env x = some (.int .u64 (p : Int))) (hy : ev env y = some (.int .u64 (q : Int))) (hq : 0 < q) :
    (execOp a.eval ⟨dst, .binOp .rem t x y t', ty, pos, af, g⟩).run P w = .ok (.value (.int .u64 ((p % q : Nat) : Int))) w := by
  have h0 : ¬ ((q : Int) = 0) := by omega
  have h1 : (p : Int).tmod q = ((p % q : Nat) : Int) := rfl
  simp only [execOp, ha.ev hx, ha.ev hy, eqGuard, binOp, Op.intDiv, h1, if_neg h0]
  simp
theorem r_conv_u32_n (ha : Has n env a) (p : UInt32) {s d : TypeId} (hs : ∀ w, (underlying s).run P w = .ok (.int .u32) w) (hd : ∀ w, (underlying d).run P w = .ok (.int .u64) w) (hx : ev env x = some (e32 p)) :
    (execOp a.eval ⟨dst, .convert s d x, ty, pos, af, g⟩).run P w = .ok (.value (.int .u64 ((p.toNat : Nat) : Int))) w :=
  r_conv_int ha hs hd hx (wrap_u64 (by omega) (by have := lt32 p; omega))
theorem r_conv_un_i64 (ha : Has n env a) (p : Nat) {s d : TypeId} (hs : ∀ w, (underlying s).run P w = .ok (.int .u64) w) (hd : ∀ w, (underlying d).run P w = .ok (.int .i64) w) (hx : ev env x = some (.int .u64 (p : Int))) (hp : p ≤ 9223372036854775807) :
    (execOp a.eval ⟨dst, .convert s d x, ty, pos, af, g⟩).run P w = .ok (.value (en p)) w :=
  r_conv_int ha hs hd hx (i64_in (by omega) (by omega))
theorem r_conv_un_u32 (ha : Has n env a) (p : Nat) {s d : TypeId} (hs : ∀ w, (underlying s).run P w = .ok (.int .u64) w) (hd : ∀ w, (underlying d).run P w = .ok (.int .u32) w) (hx : ev env x = some (.int .u64 (p : Int))) :
    (execOp a.eval ⟨dst, .convert s d x, ty, pos, af, g⟩).run P w = .ok (.value (e32 (UInt32.ofNat p))) w :=
  r_conv_int ha hs hd hx (by rw [mod_u32, UInt32.toNat_ofNat']; simp)
theorem cells_glob {w : World} {g : Nat} {C : List Value} (h : GlobAt w g C) : ∀ j u, C[j]? = some u → w.cell? ⟨g, 0 + j, none⟩ = some u := by
  obtain ⟨t, f, h⟩ := h; exact cells_all h
theorem r_index (ha : Has n env a) {C : List Value} {k : IntKind} (i : Nat) {len e : Nat} (hx : ev env x = some (.agg C.toArray)) (hy : ev env y = some (.int k i)) (hT : ∀ w, (underlying t).run P w = .ok (.array len e) w) (hsz : ∀ w, (sizeOf e).run P w = .ok 1 w) (hag : ∀ w, (isAgg e).run P w = .ok false w)
    (hi : i < len) (hv : C[i]? = some v) :
    (execOp a.eval ⟨dst, .index t x y, ty, pos, af, g⟩).run P w = .ok (.value v) w := by
  simp [execOp, ha.ev hx, ha.ev hy, Instr.index, asIntOf, hT, hsz, part, hag, hi, hv]
end
end Go.Rx
