/- The operations of the calculus: numbers without sign, and shifts. -/
import Derived.Test.YtaignhikdfpbbaaDoorRxC
namespace Go.Rx
open Go.RowKit

theorem wrap_u64 {z : Int} (h0 : 0 ≤ z) (h1 : z < 18446744073709551616) : IntKind.u64.wrap z = z := by
  unfold IntKind.wrap; simp [IntKind.bits, IntKind.signed]; omega
theorem wrap_u32 {z : Int} (h0 : 0 ≤ z) (h1 : z < 4294967296) : IntKind.u32.wrap z = z := by
  unfold IntKind.wrap; simp [IntKind.bits, IntKind.signed]; omega
theorem wrap_u8 {z : Int} (h0 : 0 ≤ z) (h1 : z < 256) : IntKind.u8.wrap z = z := by
  unfold IntKind.wrap; simp [IntKind.bits, IntKind.signed]; omega
theorem mod_u64 (z : Int) : IntKind.u64.wrap z = z % 18446744073709551616 := by unfold IntKind.wrap; simp [IntKind.bits, IntKind.signed]
theorem mod_u32 (z : Int) : IntKind.u32.wrap z = z % 4294967296 := by unfold IntKind.wrap; simp [IntKind.bits, IntKind.signed]
theorem mod_u8 (z : Int) : IntKind.u8.wrap z = z % 256 := by unfold IntKind.wrap; simp [IntKind.bits, IntKind.signed]

theorem ofInt64 (x : UInt64) : BitVec.ofInt 64 (x.toNat : Int) = x.toBitVec := by simp
theorem ofInt32 (x : UInt32) : BitVec.ofInt 32 (x.toNat : Int) = x.toBitVec := by simp
theorem ofInt8 (x : UInt8) : BitVec.ofInt 8 (x.toNat : Int) = x.toBitVec := by simp
theorem lt64 (x : UInt64) : (x.toNat : Int) < 18446744073709551616 := by have := x.toNat_lt; omega
theorem lt32 (x : UInt32) : (x.toNat : Int) < 4294967296 := by have := x.toNat_lt; omega
theorem lt8 (x : UInt8) : (x.toNat : Int) < 256 := by have := x.toNat_lt; omega

section
variable {P : Program} {n : Nat} {env : Env} {a : Act} {w : World} {dst : Option Tmp} {ty : TypeId} {pos : String} {af : Array Edge} {g : Option (Nat × Bool)} {x y z : Operand} {t t' : TypeId}

theorem back64 (r : UInt64) : IntKind.u64.wrap (r.toBitVec.toNat : Int) = (r.toNat : Int) := wrap_u64 (by omega) (lt64 r)
theorem back32 (r : UInt32) : IntKind.u32.wrap (r.toBitVec.toNat : Int) = (r.toNat : Int) := wrap_u32 (by omega) (lt32 r)
theorem back8 (r : UInt8) : IntKind.u8.wrap (r.toBitVec.toNat : Int) = (r.toNat : Int) := wrap_u8 (by omega) (lt8 r)

theorem ru_xor (ha : Has n env a) (p q : UInt64) (hx : ev env x = some (e64 p)) (hy : ev env y = some (e64 q)) :
    (execOp a.eval ⟨dst, .binOp .xor t x y t', ty, pos, af, g⟩).run P w = .ok (.value (e64 (p ^^^ q))) w := by
  have e : IntKind.u64.wrap ((BitVec.ofInt 64 (p.toNat : Int) ^^^ BitVec.ofInt 64 (q.toNat : Int)).toNat : Int) = ((p ^^^ q).toNat : Int) := by
    rw [ofInt64, ofInt64]; exact back64 (p ^^^ q)
  have h : Op.intBits .xor .u64 (p.toNat : Int) (q.toNat : Int) = pure (e64 (p ^^^ q)) := congrArg (fun z => pure (Value.int .u64 z)) e
  simp only [execOp, ha.ev hx, ha.ev hy, binOp, h]
  simp [eqGuard]
theorem ru_and (ha : Has n env a) (p q : UInt64) (hx : ev env x = some (e64 p)) (hy : ev env y = some (e64 q)) :
    (execOp a.eval ⟨dst, .binOp .and t x y t', ty, pos, af, g⟩).run P w = .ok (.value (e64 (p &&& q))) w := by
  have e : IntKind.u64.wrap ((BitVec.ofInt 64 (p.toNat : Int) &&& BitVec.ofInt 64 (q.toNat : Int)).toNat : Int) = ((p &&& q).toNat : Int) := by
    rw [ofInt64, ofInt64]; exact back64 (p &&& q)
  have h : Op.intBits .and .u64 (p.toNat : Int) (q.toNat : Int) = pure (e64 (p &&& q)) := congrArg (fun z => pure (Value.int .u64 z)) e
  simp only [execOp, ha.ev hx, ha.ev hy, binOp, h]
  simp [eqGuard]
theorem ru_or (ha : Has n env a) (p q : UInt64) (hx : ev env x = some (e64 p)) (hy : ev env y = some (e64 q)) :
    (execOp a.eval ⟨dst, .binOp .or t x y t', ty, pos, af, g⟩).run P w = .ok (.value (e64 (p ||| q))) w := by
  have e : IntKind.u64.wrap ((BitVec.ofInt 64 (p.toNat : Int) ||| BitVec.ofInt 64 (q.toNat : Int)).toNat : Int) = ((p ||| q).toNat : Int) := by
    rw [ofInt64, ofInt64]; exact back64 (p ||| q)
  have h : Op.intBits .or .u64 (p.toNat : Int) (q.toNat : Int) = pure (e64 (p ||| q)) := congrArg (fun z => pure (Value.int .u64 z)) e
  simp only [execOp, ha.ev hx, ha.ev hy, binOp, h]
  simp [eqGuard]
theorem ru_andNot (ha : Has n env a) (p q : UInt64) (hx : ev env x = some (e64 p)) (hy : ev env y = some (e64 q)) :
    (execOp a.eval ⟨dst, .binOp .andNot t x y t', ty, pos, af, g⟩).run P w = .ok (.value (e64 (p &&& ~~~q))) w := by
  have e : IntKind.u64.wrap ((BitVec.ofInt 64 (p.toNat : Int) &&& ~~~(BitVec.ofInt 64 (q.toNat : Int))).toNat : Int) = ((p &&& ~~~q).toNat : Int) := by
    rw [ofInt64, ofInt64]; exact back64 (p &&& ~~~q)
  have h : Op.intBits .andNot .u64 (p.toNat : Int) (q.toNat : Int) = pure (e64 (p &&& ~~~q)) := congrArg (fun z => pure (Value.int .u64 z)) e
  simp only [execOp, ha.ev hx, ha.ev hy, binOp, h]
  simp [eqGuard]
theorem rb_xor (ha : Has n env a) (p q : UInt8) (hx : ev env x = some (e8 p)) (hy : ev env y = some (e8 q)) :
    (execOp a.eval ⟨dst, .binOp .xor t x y t', ty, pos, af, g⟩).run P w = .ok (.value (e8 (p ^^^ q))) w := by
  have e : IntKind.u8.wrap ((BitVec.ofInt 8 (p.toNat : Int) ^^^ BitVec.ofInt 8 (q.toNat : Int)).toNat : Int) = ((p ^^^ q).toNat : Int) := by
    rw [ofInt8, ofInt8]; exact back8 (p ^^^ q)
  have h : Op.intBits .xor .u8 (p.toNat : Int) (q.toNat : Int) = pure (e8 (p ^^^ q)) := congrArg (fun z => pure (Value.int .u8 z)) e
  simp only [execOp, ha.ev hx, ha.ev hy, binOp, h]
  simp [eqGuard]
theorem rb_and (ha : Has n env a) (p q : UInt8) (hx : ev env x = some (e8 p)) (hy : ev env y = some (e8 q)) :
    (execOp a.eval ⟨dst, .binOp .and t x y t', ty, pos, af, g⟩).run P w = .ok (.value (e8 (p &&& q))) w := by
  have e : IntKind.u8.wrap ((BitVec.ofInt 8 (p.toNat : Int) &&& BitVec.ofInt 8 (q.toNat : Int)).toNat : Int) = ((p &&& q).toNat : Int) := by
    rw [ofInt8, ofInt8]; exact back8 (p &&& q)
  have h : Op.intBits .and .u8 (p.toNat : Int) (q.toNat : Int) = pure (e8 (p &&& q)) := congrArg (fun z => pure (Value.int .u8 z)) e
  simp only [execOp, ha.ev hx, ha.ev hy, binOp, h]
  simp [eqGuard]
theorem rb_or (ha : Has n env a) (p q : UInt8) (hx : ev env x = some (e8 p)) (hy : ev env y = some (e8 q)) :
    (execOp a.eval ⟨dst, .binOp .or t x y t', ty, pos, af, g⟩).run P w = .ok (.value (e8 (p ||| q))) w := by
  have e : IntKind.u8.wrap ((BitVec.ofInt 8 (p.toNat : Int) ||| BitVec.ofInt 8 (q.toNat : Int)).toNat : Int) = ((p ||| q).toNat : Int) := by
    rw [ofInt8, ofInt8]; exact back8 (p ||| q)
  have h : Op.intBits .or .u8 (p.toNat : Int) (q.toNat : Int) = pure (e8 (p ||| q)) := congrArg (fun z => pure (Value.int .u8 z)) e
  simp only [execOp, ha.ev hx, ha.ev hy, binOp, h]
  simp [eqGuard]
theorem rb_andNot (ha : Has n env a) (p q : UInt8) (hx : ev env x = some (e8 p)) (hy : ev env y = some (e8 q)) :
    (execOp a.eval ⟨dst, .binOp .andNot t x y t', ty, pos, af, g⟩).run P w = .ok (.value (e8 (p &&& ~~~q))) w := by
  have e : IntKind.u8.wrap ((BitVec.ofInt 8 (p.toNat : Int) &&& ~~~(BitVec.ofInt 8 (q.toNat : Int))).toNat : Int) = ((p &&& ~~~q).toNat : Int) := by
    rw [ofInt8, ofInt8]; exact back8 (p &&& ~~~q)
  have h : Op.intBits .andNot .u8 (p.toNat : Int) (q.toNat : Int) = pure (e8 (p &&& ~~~q)) := congrArg (fun z => pure (Value.int .u8 z)) e
  simp only [execOp, ha.ev hx, ha.ev hy, binOp, h]
  simp [eqGuard]
theorem rw_xor (ha : Has n env a) (p q : UInt32) (hx : ev env x = some (e32 p)) (hy : ev env y = some (e32 q)) :
    (execOp a.eval ⟨dst, .binOp .xor t x y t', ty, pos, af, g⟩).run P w = .ok (.value (e32 (p ^^^ q))) w := by
  have e : IntKind.u32.wrap ((BitVec.ofInt 32 (p.toNat : Int) ^^^ BitVec.ofInt 32 (q.toNat : Int)).toNat : Int) = ((p ^^^ q).toNat : Int) := by
    rw [ofInt32, ofInt32]; exact back32 (p ^^^ q)
  have h : Op.intBits .xor .u32 (p.toNat : Int) (q.toNat : Int) = pure (e32 (p ^^^ q)) := congrArg (fun z => pure (Value.int .u32 z)) e
  simp only [execOp, ha.ev hx, ha.ev hy, binOp, h]
  simp [eqGuard]
theorem rw_and (ha : Has n env a) (p q : UInt32) (hx : ev env x = some (e32 p)) (hy : ev env y = some (e32 q)) :
    (execOp a.eval ⟨dst, .binOp .and t x y t', ty, pos, af, g⟩).run P w = .ok (.value (e32 (p &&& q))) w := by
  have e : IntKind.u32.wrap ((BitVec.ofInt 32 (p.toNat : Int) &&& BitVec.ofInt 32 (q.toNat : Int)).toNat : Int) = ((p &&& q).toNat : Int) := by
    rw [ofInt32, ofInt32]; exact back32 (p &&& q)
  have h : Op.intBits .and .u32 (p.toNat : Int) (q.toNat : Int) = pure (e32 (p &&& q)) := congrArg (fun z => pure (Value.int .u32 z)) e
  simp only [execOp, ha.ev hx, ha.ev hy, binOp, h]
  simp [eqGuard]
theorem rw_or (ha : Has n env a) (p q : UInt32) (hx : ev env x = some (e32 p)) (hy : ev env y = some (e32 q)) :
    (execOp a.eval ⟨dst, .binOp .or t x y t', ty, pos, af, g⟩).run P w = .ok (.value (e32 (p ||| q))) w := by
  have e : IntKind.u32.wrap ((BitVec.ofInt 32 (p.toNat : Int) ||| BitVec.ofInt 32 (q.toNat : Int)).toNat : Int) = ((p ||| q).toNat : Int) := by
    rw [ofInt32, ofInt32]; exact back32 (p ||| q)
  have h : Op.intBits .or .u32 (p.toNat : Int) (q.toNat : Int) = pure (e32 (p ||| q)) := congrArg (fun z => pure (Value.int .u32 z)) e
  simp only [execOp, ha.ev hx, ha.ev hy, binOp, h]
  simp [eqGuard]
theorem rw_andNot (ha : Has n env a) (p q : UInt32) (hx : ev env x = some (e32 p)) (hy : ev env y = some (e32 q)) :
    (execOp a.eval ⟨dst, .binOp .andNot t x y t', ty, pos, af, g⟩).run P w = .ok (.value (e32 (p &&& ~~~q))) w := by
  have e : IntKind.u32.wrap ((BitVec.ofInt 32 (p.toNat : Int) &&& ~~~(BitVec.ofInt 32 (q.toNat : Int))).toNat : Int) = ((p &&& ~~~q).toNat : Int) := by
    rw [ofInt32, ofInt32]; exact back32 (p &&& ~~~q)
  have h : Op.intBits .andNot .u32 (p.toNat : Int) (q.toNat : Int) = pure (e32 (p &&& ~~~q)) := congrArg (fun z => pure (Value.int .u32 z)) e
  simp only [execOp, ha.ev hx, ha.ev hy, binOp, h]
  simp [eqGuard]
theorem ru_add (ha : Has n env a) (p q : UInt64) (hx : ev env x = some (e64 p)) (hy : ev env y = some (e64 q)) :
    (execOp a.eval ⟨dst, .binOp .add t x y t', ty, pos, af, g⟩).run P w = .ok (.value (e64 (p + q))) w := by
  have e : IntKind.u64.wrap ((p.toNat : Int) + q.toNat) = ((p + q).toNat : Int) := by rw [mod_u64, UInt64.toNat_add]; omega
  simp [execOp, ha.ev hx, ha.ev hy, eqGuard, binOp, Op.intArith, e, -UInt64.toNat_add]
theorem ru_sub (ha : Has n env a) (p q : UInt64) (hx : ev env x = some (e64 p)) (hy : ev env y = some (e64 q)) :
    (execOp a.eval ⟨dst, .binOp .sub t x y t', ty, pos, af, g⟩).run P w = .ok (.value (e64 (p - q))) w := by
  have e : IntKind.u64.wrap ((p.toNat : Int) - q.toNat) = ((p - q).toNat : Int) := by
    rw [mod_u64, UInt64.toNat_sub]; have := lt64 p; have := lt64 q; omega
  simp [execOp, ha.ev hx, ha.ev hy, eqGuard, binOp, Op.intArith, e]
theorem ru_quo (ha : Has n env a) (p q : UInt64) (hx : ev env x = some (e64 p)) (hy : ev env y = some (e64 q)) (hq : 0 < q.toNat) :
    (execOp a.eval ⟨dst, .binOp .quo t x y t', ty, pos, af, g⟩).run P w = .ok (.value (e64 (p / q))) w := by
  have h0 : ¬ ((q.toNat : Int) = 0) := by omega
  have h1 : ((p.toNat : Int)).tdiv q.toNat = ((p / q).toNat : Int) := by rw [Int.tdiv_eq_ediv_of_nonneg (by omega), UInt64.toNat_div]; simp
  have h2 := lt64 (p / q)
  simp only [execOp, ha.ev hx, ha.ev hy, eqGuard, binOp, Op.intDiv, h1, if_neg h0, wrap_u64 (by omega) h2]
  simp
theorem ru_rem (ha : Has n env a) (p q : UInt64) (hx : ev env x = some (e64 p)) (hy : ev env y = some (e64 q)) (hq : 0 < q.toNat) :
    (execOp a.eval ⟨dst, .binOp .rem t x y t', ty, pos, af, g⟩).run P w = .ok (.value (e64 (p % q))) w := by
  have h0 : ¬ ((q.toNat : Int) = 0) := by omega
  have h1 : ((p.toNat : Int)).tmod q.toNat = ((p % q).toNat : Int) := by rw [UInt64.toNat_mod]; rfl
  simp only [execOp, ha.ev hx, ha.ev hy, eqGuard, binOp, Op.intDiv, h1, if_neg h0]
  simp

theorem rb_add (ha : Has n env a) (p q : UInt8) (hx : ev env x = some (e8 p)) (hy : ev env y = some (e8 q)) :
    (execOp a.eval ⟨dst, .binOp .add t x y t', ty, pos, af, g⟩).run P w = .ok (.value (e8 (p + q))) w := by
  have e : IntKind.u8.wrap ((p.toNat : Int) + q.toNat) = ((p + q).toNat : Int) := by rw [mod_u8, UInt8.toNat_add]; omega
  simp [execOp, ha.ev hx, ha.ev hy, eqGuard, binOp, Op.intArith, e, -UInt8.toNat_add]

/-! ### Shifts: the count a number no less than nought, of whatever kind -/
theorem fdiv_nat (p k : Nat) : Int.fdiv (p : Int) (2 ^ k) = ((p >>> k : Nat) : Int) := by
  rw [Int.fdiv_eq_ediv_of_nonneg _ (by exact Int.pow_nonneg (by omega)), Nat.shiftRight_eq_div_pow]
  simp

theorem ru_shr (ha : Has n env a) (p : UInt64) {k : IntKind} (q : Nat) (hx : ev env x = some (e64 p)) (hy : ev env y = some (.int k q)) (hq : q < 64) :
    (execOp a.eval ⟨dst, .binOp .shr t x y t', ty, pos, af, g⟩).run P w = .ok (.value (e64 (p >>> UInt64.ofNat q))) w := by
  have e : Int.fdiv (p.toNat : Int) (2 ^ q) = ((p >>> UInt64.ofNat q).toNat : Int) := by
    rw [fdiv_nat, UInt64.toNat_shiftRight]
    have : (UInt64.ofNat q).toNat % 64 = q := by simp; omega
    rw [this]
  have h : Op.shift .shr .u64 (p.toNat : Int) k (q : Int) = pure (e64 (p >>> UInt64.ofNat q)) := by
    unfold Op.shift
    rw [if_neg (by omega)]
    simp only [Int.toNat_natCast, IntKind.bits, show min q 64 = q by omega, e]
  simp only [execOp, ha.ev hx, ha.ev hy, binOp, h]
  simp [eqGuard]
theorem ru_shl (ha : Has n env a) (p : UInt64) {k : IntKind} (q : Nat) (hx : ev env x = some (e64 p)) (hy : ev env y = some (.int k q)) (hq : q < 64) :
    (execOp a.eval ⟨dst, .binOp .shl t x y t', ty, pos, af, g⟩).run P w = .ok (.value (e64 (p <<< UInt64.ofNat q))) w := by
  have e : IntKind.u64.wrap ((p.toNat : Int) * 2 ^ q) = ((p <<< UInt64.ofNat q).toNat : Int) := by
    have h2 : (UInt64.ofNat q).toNat % 64 = q := by simp; omega
    rw [mod_u64, UInt64.toNat_shiftLeft, h2, Nat.shiftLeft_eq, Int.natCast_emod, Int.natCast_mul, Int.natCast_pow]
    rfl
  have h : Op.shift .shl .u64 (p.toNat : Int) k (q : Int) = pure (e64 (p <<< UInt64.ofNat q)) := by
    unfold Op.shift
    rw [if_neg (by omega)]
    simp only [Int.toNat_natCast, IntKind.bits, show min q 64 = q by omega, e]
  simp only [execOp, ha.ev hx, ha.ev hy, binOp, h]
  simp [eqGuard]
theorem rb_shr (ha : Has n env a) (p : UInt8) {k : IntKind} (q : Nat) (hx : ev env x = some (e8 p)) (hy : ev env y = some (.int k q)) (hq : q < 8) :
    (execOp a.eval ⟨dst, .binOp .shr t x y t', ty, pos, af, g⟩).run P w = .ok (.value (e8 (p >>> UInt8.ofNat q))) w := by
  have e : Int.fdiv (p.toNat : Int) (2 ^ q) = ((p >>> UInt8.ofNat q).toNat : Int) := by
    rw [fdiv_nat, UInt8.toNat_shiftRight]
    have : (UInt8.ofNat q).toNat % 8 = q := by simp; omega
    rw [this]
  have h : Op.shift .shr .u8 (p.toNat : Int) k (q : Int) = pure (e8 (p >>> UInt8.ofNat q)) := by
    unfold Op.shift
    rw [if_neg (by omega)]
    simp only [Int.toNat_natCast, IntKind.bits, show min q 8 = q by omega, e]
  simp only [execOp, ha.ev hx, ha.ev hy, binOp, h]
  simp [eqGuard]
theorem rb_shl (ha : Has n env a) (p : UInt8) {k : IntKind} (q : Nat) (hx : ev env x = some (e8 p)) (hy : ev env y = some (.int k q)) (hq : q < 8) :
    (execOp a.eval ⟨dst, .binOp .shl t x y t', ty, pos, af, g⟩).run P w = .ok (.value (e8 (p <<< UInt8.ofNat q))) w := by
  have e : IntKind.u8.wrap ((p.toNat : Int) * 2 ^ q) = ((p <<< UInt8.ofNat q).toNat : Int) := by
    have h2 : (UInt8.ofNat q).toNat % 8 = q := by simp; omega
    rw [mod_u8, UInt8.toNat_shiftLeft, h2, Nat.shiftLeft_eq, Int.natCast_emod, Int.natCast_mul, Int.natCast_pow]
    rfl
  have h : Op.shift .shl .u8 (p.toNat : Int) k (q : Int) = pure (e8 (p <<< UInt8.ofNat q)) := by
    unfold Op.shift
    rw [if_neg (by omega)]
    simp only [Int.toNat_natCast, IntKind.bits, show min q 8 = q by omega, e]
  simp only [execOp, ha.ev hx, ha.ev hy, binOp, h]
  simp [eqGuard]

/- int: shifts and masks -/
theorem rn_shr (ha : Has n env a) (p : Nat) {k : IntKind} (q : Nat) (hx : ev env x = some (en p)) (hy : ev env y = some (.int k q)) (hq : q < 64) :
    (execOp a.eval ⟨dst, .binOp .shr t x y t', ty, pos, af, g⟩).run P w = .ok (.value (en (p >>> q))) w := by
  have h : Op.shift .shr .i64 (p : Int) k (q : Int) = pure (en (p >>> q)) := by
    unfold Op.shift
    rw [if_neg (by omega)]
    simp only [Int.toNat_natCast, IntKind.bits, show min q 64 = q by omega, fdiv_nat]
  simp only [execOp, ha.ev hx, ha.ev hy, binOp, h]
  simp [eqGuard]
theorem rn_shl (ha : Has n env a) (p : Nat) {k : IntKind} (q : Nat) (hx : ev env x = some (en p)) (hy : ev env y = some (.int k q)) (hq : q < 64) (hb : p * 2 ^ q ≤ 9223372036854775807) :
    (execOp a.eval ⟨dst, .binOp .shl t x y t', ty, pos, af, g⟩).run P w = .ok (.value (en (p * 2 ^ q))) w := by
  have e : IntKind.i64.wrap ((p : Int) * 2 ^ q) = ((p * 2 ^ q : Nat) : Int) := by
    rw [show ((p : Int) * 2 ^ q) = ((p * 2 ^ q : Nat) : Int) by rw [Int.natCast_mul, Int.natCast_pow]; rfl]
    exact i64_in (by omega) (by omega)
  have h : Op.shift .shl .i64 (p : Int) k (q : Int) = pure (en (p * 2 ^ q)) := by
    unfold Op.shift
    rw [if_neg (by omega)]
    simp only [Int.toNat_natCast, IntKind.bits, show min q 64 = q by omega, e]
  simp only [execOp, ha.ev hx, ha.ev hy, binOp, h]
  simp [eqGuard]
theorem r_shr (ha : Has n env a) (p : Int) {k : IntKind} (q : Nat) (hx : ev env x = some (ei p)) (hy : ev env y = some (.int k q)) (hq : q < 64) :
    (execOp a.eval ⟨dst, .binOp .shr t x y t', ty, pos, af, g⟩).run P w = .ok (.value (ei (p / 2 ^ q))) w := by
  have e : Int.fdiv p (2 ^ q) = p / 2 ^ q := Int.fdiv_eq_ediv_of_nonneg _ (by exact Int.pow_nonneg (by omega))
  have h : Op.shift .shr .i64 p k (q : Int) = pure (ei (p / 2 ^ q)) := by
    unfold Op.shift
    rw [if_neg (by omega)]
    simp only [Int.toNat_natCast, IntKind.bits, show min q 64 = q by omega, e]
  simp only [execOp, ha.ev hx, ha.ev hy, binOp, h]
  simp [eqGuard]

theorem toNat_mask (p : Int) (j : Nat) (hj : j ≤ 63) : (BitVec.ofInt 64 p &&& BitVec.ofInt 64 ((2 ^ j - 1 : Nat) : Int)).toNat = (p % (2 ^ j : Nat)).toNat := by
  have h1 : BitVec.ofInt 64 ((2 ^ j - 1 : Nat) : Int) = BitVec.ofNat 64 (2 ^ j - 1) := by simp
  have hlt : 2 ^ j - 1 < 2 ^ 64 := by have : 2 ^ j ≤ 2 ^ 63 := Nat.pow_le_pow_right (by omega) hj; omega
  rw [h1, BitVec.toNat_and, BitVec.toNat_ofNat, Nat.mod_eq_of_lt hlt, Nat.and_two_pow_sub_one_eq_mod, BitVec.toNat_ofInt]
  have hd : ((2 ^ j : Nat) : Int) ∣ (2 ^ 64 : Nat) := Int.natCast_dvd_natCast.2 (Nat.pow_dvd_pow 2 (by omega))
  have hp : (0 : Int) < (2 ^ j : Nat) := Int.natCast_pos.2 (Nat.two_pow_pos j)
  have h0 : 0 ≤ p % (2 ^ 64 : Nat) := Int.emod_nonneg _ (by decide)
  have h2 : (p % (2 ^ 64 : Nat)) % (2 ^ j : Nat) = p % (2 ^ j : Nat) := Int.emod_emod_of_dvd p hd
  have h3 : ((p % (2 ^ 64 : Nat)).toNat % 2 ^ j : Nat) = ((p % (2 ^ 64 : Nat)) % (2 ^ j : Nat)).toNat := by
    rw [Int.toNat_emod h0 (Int.le_of_lt hp), Int.toNat_natCast]
  rw [h3, h2]

/-- 'x & (2^j - 1)' of any int. -/
theorem r_mask (ha : Has n env a) (p : Int) (j : Nat) (hj : j ≤ 62) {m : Nat} (hm : m = 2 ^ j - 1) (hx : ev env x = some (ei p)) (hy : ev env y = some (en m)) :
    (execOp a.eval ⟨dst, .binOp .and t x y t', ty, pos, af, g⟩).run P w = .ok (.value (en (p % (2 ^ j : Nat)).toNat)) w := by
  subst hm
  have e := toNat_mask p j (by omega)
  have hlt : (p % (2 ^ j : Nat)).toNat < 2 ^ j := by
    have hp : (0 : Int) < (2 ^ j : Nat) := Int.natCast_pos.2 (Nat.two_pow_pos j)
    have := Int.emod_lt_of_pos p hp
    have := Int.emod_nonneg p (Int.ne_of_gt hp)
    omega
  have hle : 2 ^ j ≤ 2 ^ 62 := Nat.pow_le_pow_right (by omega) hj
  have e2 : IntKind.i64.wrap (((p % (2 ^ j : Nat)).toNat : Nat) : Int) = ((p % (2 ^ j : Nat)).toNat : Int) := i64_in (by omega) (by omega)
  have h : Op.intBits .and .i64 p ((2 ^ j - 1 : Nat) : Int) = pure (en (p % (2 ^ j : Nat)).toNat) := by
    have e3 : IntKind.i64.wrap (((BitVec.ofInt 64 p &&& BitVec.ofInt 64 ((2 ^ j - 1 : Nat) : Int)).toNat : Nat) : Int) = ((p % (2 ^ j : Nat)).toNat : Int) := by rw [e]; exact e2
    exact congrArg (fun z => pure (Value.int .i64 z)) e3
  simp only [execOp, ha.ev hx, ha.ev hy, binOp, h]
  simp [eqGuard]
end
end Go.Rx
