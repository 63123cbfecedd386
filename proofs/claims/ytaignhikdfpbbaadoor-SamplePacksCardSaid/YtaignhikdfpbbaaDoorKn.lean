/- The permutation over plain numbers, in a form that the kernel reckons fast; it is the permutation of words. No program and no memory here. -/
import Derived.Test.YtaignhikdfpbbaaDoorPk
import Derived.KernelRfl
namespace Go.Rx
set_option maxRecDepth 100000
set_option maxHeartbeats 4000000
set_option linter.unusedVariables false

def nrot (x k j : Nat) : Nat := Nat.lor (Nat.mod (Nat.shiftLeft x k) 18446744073709551616) (Nat.shiftRight x j)
def nchi (x y z : Nat) : Nat := Nat.xor x (Nat.land z (Nat.xor y 18446744073709551615))
def nmix (p q : Nat) : Nat := Nat.xor p (nrot q 1 63)
def nfive (a b c d e : Nat) : Nat := Nat.xor (Nat.xor (Nat.xor (Nat.xor a b) c) d) e
def nchiR {α : Type} (c a0 a1 a2 a3 a4 a5 a6 a7 a8 a9 a10 a11 a12 a13 a14 a15 a16 a17 a18 a19 a20 a21 a22 a23 a24 : Nat) (K : Nat → Nat → Nat → Nat → Nat → Nat → Nat → Nat → Nat → Nat → Nat → Nat → Nat → Nat → Nat → Nat → Nat → Nat → Nat → Nat → Nat → Nat → Nat → Nat → Nat → α) : α :=
  K (Nat.xor (nchi a0 a1 a2) c) (nchi a1 a2 a3) (nchi a2 a3 a4) (nchi a3 a4 a0) (nchi a4 a0 a1) (nchi a5 a6 a7) (nchi a6 a7 a8) (nchi a7 a8 a9) (nchi a8 a9 a5) (nchi a9 a5 a6) (nchi a10 a11 a12) (nchi a11 a12 a13) (nchi a12 a13 a14) (nchi a13 a14 a10) (nchi a14 a10 a11) (nchi a15 a16 a17) (nchi a16 a17 a18) (nchi a17 a18 a19) (nchi a18 a19 a15) (nchi a19 a15 a16) (nchi a20 a21 a22) (nchi a21 a22 a23) (nchi a22 a23 a24) (nchi a23 a24 a20) (nchi a24 a20 a21)
def nrhoR {α : Type} (c a0 a1 a2 a3 a4 a5 a6 a7 a8 a9 a10 a11 a12 a13 a14 a15 a16 a17 a18 a19 a20 a21 a22 a23 a24 : Nat) (K : Nat → Nat → Nat → Nat → Nat → Nat → Nat → Nat → Nat → Nat → Nat → Nat → Nat → Nat → Nat → Nat → Nat → Nat → Nat → Nat → Nat → Nat → Nat → Nat → Nat → α) : α :=
  nchiR c (nrot a0 0 64) (nrot a6 44 20) (nrot a12 43 21) (nrot a18 21 43) (nrot a24 14 50) (nrot a3 28 36) (nrot a9 20 44) (nrot a10 3 61) (nrot a16 45 19) (nrot a22 61 3) (nrot a1 1 63) (nrot a7 6 58) (nrot a13 25 39) (nrot a19 8 56) (nrot a20 18 46) (nrot a4 27 37) (nrot a5 36 28) (nrot a11 10 54) (nrot a17 15 49) (nrot a23 56 8) (nrot a2 62 2) (nrot a8 55 9) (nrot a14 39 25) (nrot a15 41 23) (nrot a21 2 62) K
def nthR {α : Type} (c a0 a1 a2 a3 a4 a5 a6 a7 a8 a9 a10 a11 a12 a13 a14 a15 a16 a17 a18 a19 a20 a21 a22 a23 a24 d0 d1 d2 d3 d4 : Nat) (K : Nat → Nat → Nat → Nat → Nat → Nat → Nat → Nat → Nat → Nat → Nat → Nat → Nat → Nat → Nat → Nat → Nat → Nat → Nat → Nat → Nat → Nat → Nat → Nat → Nat → α) : α :=
  nrhoR c (Nat.xor a0 d0) (Nat.xor a1 d1) (Nat.xor a2 d2) (Nat.xor a3 d3) (Nat.xor a4 d4) (Nat.xor a5 d0) (Nat.xor a6 d1) (Nat.xor a7 d2) (Nat.xor a8 d3) (Nat.xor a9 d4) (Nat.xor a10 d0) (Nat.xor a11 d1) (Nat.xor a12 d2) (Nat.xor a13 d3) (Nat.xor a14 d4) (Nat.xor a15 d0) (Nat.xor a16 d1) (Nat.xor a17 d2) (Nat.xor a18 d3) (Nat.xor a19 d4) (Nat.xor a20 d0) (Nat.xor a21 d1) (Nat.xor a22 d2) (Nat.xor a23 d3) (Nat.xor a24 d4) K
def ncR {α : Type} (c a0 a1 a2 a3 a4 a5 a6 a7 a8 a9 a10 a11 a12 a13 a14 a15 a16 a17 a18 a19 a20 a21 a22 a23 a24 c0 c1 c2 c3 c4 : Nat) (K : Nat → Nat → Nat → Nat → Nat → Nat → Nat → Nat → Nat → Nat → Nat → Nat → Nat → Nat → Nat → Nat → Nat → Nat → Nat → Nat → Nat → Nat → Nat → Nat → Nat → α) : α :=
  nthR c a0 a1 a2 a3 a4 a5 a6 a7 a8 a9 a10 a11 a12 a13 a14 a15 a16 a17 a18 a19 a20 a21 a22 a23 a24 (nmix c4 c1) (nmix c0 c2) (nmix c1 c3) (nmix c2 c4) (nmix c3 c0) K
def nround {α : Type} (c a0 a1 a2 a3 a4 a5 a6 a7 a8 a9 a10 a11 a12 a13 a14 a15 a16 a17 a18 a19 a20 a21 a22 a23 a24 : Nat) (K : Nat → Nat → Nat → Nat → Nat → Nat → Nat → Nat → Nat → Nat → Nat → Nat → Nat → Nat → Nat → Nat → Nat → Nat → Nat → Nat → Nat → Nat → Nat → Nat → Nat → α) : α :=
  ncR c a0 a1 a2 a3 a4 a5 a6 a7 a8 a9 a10 a11 a12 a13 a14 a15 a16 a17 a18 a19 a20 a21 a22 a23 a24 (nfive a0 a5 a10 a15 a20) (nfive a1 a6 a11 a16 a21) (nfive a2 a7 a12 a17 a22) (nfive a3 a8 a13 a18 a23) (nfive a4 a9 a14 a19 a24) K
def nrounds : List Nat → Nat → Nat → Nat → Nat → Nat → Nat → Nat → Nat → Nat → Nat → Nat → Nat → Nat → Nat → Nat → Nat → Nat → Nat → Nat → Nat → Nat → Nat → Nat → Nat → Nat → List Nat
  | [], a0, a1, a2, a3, a4, a5, a6, a7, a8, a9, a10, a11, a12, a13, a14, a15, a16, a17, a18, a19, a20, a21, a22, a23, a24 => [a0, a1, a2, a3, a4, a5, a6, a7, a8, a9, a10, a11, a12, a13, a14, a15, a16, a17, a18, a19, a20, a21, a22, a23, a24]
  | c :: cs, a0, a1, a2, a3, a4, a5, a6, a7, a8, a9, a10, a11, a12, a13, a14, a15, a16, a17, a18, a19, a20, a21, a22, a23, a24 => nround c a0 a1 a2 a3 a4 a5 a6 a7 a8 a9 a10 a11 a12 a13 a14 a15 a16 a17 a18 a19 a20 a21 a22 a23 a24 (nrounds cs)
def nconsts : List Nat := [0x0000000000000001, 0x0000000000008082, 0x800000000000808a, 0x8000000080008000, 0x000000000000808b, 0x0000000080000001, 0x8000000080008081, 0x8000000000008009, 0x000000000000008a, 0x0000000000000088, 0x0000000080008009, 0x000000008000000a, 0x000000008000808b, 0x800000000000008b, 0x8000000000008089, 0x8000000000008003, 0x8000000000008002, 0x8000000000000080, 0x000000000000800a, 0x800000008000000a, 0x8000000080008081, 0x8000000000008080, 0x0000000080000001, 0x8000000080008008]
def nkf (l : List Nat) : List Nat := match l with
  | [a0, a1, a2, a3, a4, a5, a6, a7, a8, a9, a10, a11, a12, a13, a14, a15, a16, a17, a18, a19, a20, a21, a22, a23, a24] => nrounds nconsts a0 a1 a2 a3 a4 a5 a6 a7 a8 a9 a10 a11 a12 a13 a14 a15 a16 a17 a18 a19 a20 a21 a22 a23 a24
  | _ => []

theorem nrot_eq (x : UInt64) (k j : Nat) (hk : k < 64) (hj : j = 64 - k) : (rotl x k).toNat = nrot x.toNat k j := by
  subst hj
  have hx := x.toNat_lt
  unfold rotl nrot shrG
  rw [Nat.mod_eq_of_lt (show k < 2 ^ 6 by omega)]
  rw [UInt64.toNat_or, UInt64.toNat_shiftLeft]
  have e1 : (UInt64.ofNat k).toNat % 64 = k := by rw [UInt64.toNat_ofNat']; omega
  rw [e1]
  split
  · rename_i h
    have h0 : k = 0 := by omega
    subst h0
    have e2 : Nat.shiftRight x.toNat (64 - 0) = 0 := by
      show x.toNat >>> 64 = 0
      rw [Nat.shiftRight_eq_div_pow]; omega
    rw [e2]; rfl
  · rename_i h
    rw [UInt64.toNat_shiftRight]
    have e2 : (UInt64.ofNat (64 - k)).toNat % 64 = 64 - k := by rw [UInt64.toNat_ofNat']; omega
    rw [e2]; rfl
theorem nchi_eq (x y z : UInt64) : (x ^^^ (z &&& ~~~y)).toNat = nchi x.toNat y.toNat z.toNat := by
  have hy : (~~~y).toNat = Nat.xor y.toNat 18446744073709551615 := by
    have h : (~~~y) = y ^^^ 18446744073709551615 := UInt64.toBitVec_inj.1 (by show ~~~y.toBitVec = y.toBitVec ^^^ BitVec.allOnes 64; rw [BitVec.xor_allOnes])
    rw [h, UInt64.toNat_xor]; rfl
  rw [UInt64.toNat_xor, UInt64.toNat_and, hy]; rfl
theorem nmix_eq (x y : UInt64) : (x ^^^ rotl y 1).toNat = nmix x.toNat y.toNat := by rw [UInt64.toNat_xor, nrot_eq y 1 63 (by omega) rfl]; rfl

theorem thC_of (x0 x1 x2 x3 x4 x5 x6 x7 x8 x9 x10 x11 x12 x13 x14 x15 x16 x17 x18 x19 x20 x21 x22 x23 x24 : UInt64) : thC [x0, x1, x2, x3, x4, x5, x6, x7, x8, x9, x10, x11, x12, x13, x14, x15, x16, x17, x18, x19, x20, x21, x22, x23, x24] 5 = [(x0 ^^^ x5 ^^^ x10 ^^^ x15 ^^^ x20), (x1 ^^^ x6 ^^^ x11 ^^^ x16 ^^^ x21), (x2 ^^^ x7 ^^^ x12 ^^^ x17 ^^^ x22), (x3 ^^^ x8 ^^^ x13 ^^^ x18 ^^^ x23), (x4 ^^^ x9 ^^^ x14 ^^^ x19 ^^^ x24)] := by kernel_rfl
def thB (l C : List UInt64) : Nat → List UInt64
  | 0 => l
  | k + 1 => (thB l C k).set k ((thB l C k).getD k 0 ^^^ (C.getD ((k % 5 + 4) % 5) 0 ^^^ rotl (C.getD ((k % 5 + 1) % 5) 0) 1))
theorem thB_eq (l C : List UInt64) (h : thC l 5 = C) : ∀ k, thA l k = thB l C k
  | 0 => rfl
  | k + 1 => by rw [thA, thB, thB_eq l C h k, h]
theorem theta_of (x0 x1 x2 x3 x4 x5 x6 x7 x8 x9 x10 x11 x12 x13 x14 x15 x16 x17 x18 x19 x20 x21 x22 x23 x24 : UInt64) (c0 c1 c2 c3 c4 : UInt64) (h : thC [x0, x1, x2, x3, x4, x5, x6, x7, x8, x9, x10, x11, x12, x13, x14, x15, x16, x17, x18, x19, x20, x21, x22, x23, x24] 5 = [c0, c1, c2, c3, c4]) : theta [x0, x1, x2, x3, x4, x5, x6, x7, x8, x9, x10, x11, x12, x13, x14, x15, x16, x17, x18, x19, x20, x21, x22, x23, x24] = [x0 ^^^ (c4 ^^^ rotl c1 1), x1 ^^^ (c0 ^^^ rotl c2 1), x2 ^^^ (c1 ^^^ rotl c3 1), x3 ^^^ (c2 ^^^ rotl c4 1), x4 ^^^ (c3 ^^^ rotl c0 1), x5 ^^^ (c4 ^^^ rotl c1 1), x6 ^^^ (c0 ^^^ rotl c2 1), x7 ^^^ (c1 ^^^ rotl c3 1), x8 ^^^ (c2 ^^^ rotl c4 1), x9 ^^^ (c3 ^^^ rotl c0 1), x10 ^^^ (c4 ^^^ rotl c1 1), x11 ^^^ (c0 ^^^ rotl c2 1), x12 ^^^ (c1 ^^^ rotl c3 1), x13 ^^^ (c2 ^^^ rotl c4 1), x14 ^^^ (c3 ^^^ rotl c0 1), x15 ^^^ (c4 ^^^ rotl c1 1), x16 ^^^ (c0 ^^^ rotl c2 1), x17 ^^^ (c1 ^^^ rotl c3 1), x18 ^^^ (c2 ^^^ rotl c4 1), x19 ^^^ (c3 ^^^ rotl c0 1), x20 ^^^ (c4 ^^^ rotl c1 1), x21 ^^^ (c0 ^^^ rotl c2 1), x22 ^^^ (c1 ^^^ rotl c3 1), x23 ^^^ (c2 ^^^ rotl c4 1), x24 ^^^ (c3 ^^^ rotl c0 1)] := by
  rw [theta, thB_eq _ _ h]; kernel_rfl
theorem rho_of (x0 x1 x2 x3 x4 x5 x6 x7 x8 x9 x10 x11 x12 x13 x14 x15 x16 x17 x18 x19 x20 x21 x22 x23 x24 : UInt64) : rho [x0, x1, x2, x3, x4, x5, x6, x7, x8, x9, x10, x11, x12, x13, x14, x15, x16, x17, x18, x19, x20, x21, x22, x23, x24] = [rotl x0 0, rotl x1 1, rotl x2 62, rotl x3 28, rotl x4 27, rotl x5 36, rotl x6 44, rotl x7 6, rotl x8 55, rotl x9 20, rotl x10 3, rotl x11 10, rotl x12 43, rotl x13 25, rotl x14 39, rotl x15 41, rotl x16 45, rotl x17 15, rotl x18 21, rotl x19 8, rotl x20 18, rotl x21 2, rotl x22 61, rotl x23 56, rotl x24 14] := by kernel_rfl
theorem pi_of (x0 x1 x2 x3 x4 x5 x6 x7 x8 x9 x10 x11 x12 x13 x14 x15 x16 x17 x18 x19 x20 x21 x22 x23 x24 : UInt64) : pi [x0, x1, x2, x3, x4, x5, x6, x7, x8, x9, x10, x11, x12, x13, x14, x15, x16, x17, x18, x19, x20, x21, x22, x23, x24] = [x0, x6, x12, x18, x24, x3, x9, x10, x16, x22, x1, x7, x13, x19, x20, x4, x5, x11, x17, x23, x2, x8, x14, x15, x21] := by kernel_rfl
theorem chi_of (x0 x1 x2 x3 x4 x5 x6 x7 x8 x9 x10 x11 x12 x13 x14 x15 x16 x17 x18 x19 x20 x21 x22 x23 x24 : UInt64) : chi [x0, x1, x2, x3, x4, x5, x6, x7, x8, x9, x10, x11, x12, x13, x14, x15, x16, x17, x18, x19, x20, x21, x22, x23, x24] = [x0 ^^^ (x2 &&& ~~~x1), x1 ^^^ (x3 &&& ~~~x2), x2 ^^^ (x4 &&& ~~~x3), x3 ^^^ (x0 &&& ~~~x4), x4 ^^^ (x1 &&& ~~~x0), x5 ^^^ (x7 &&& ~~~x6), x6 ^^^ (x8 &&& ~~~x7), x7 ^^^ (x9 &&& ~~~x8), x8 ^^^ (x5 &&& ~~~x9), x9 ^^^ (x6 &&& ~~~x5), x10 ^^^ (x12 &&& ~~~x11), x11 ^^^ (x13 &&& ~~~x12), x12 ^^^ (x14 &&& ~~~x13), x13 ^^^ (x10 &&& ~~~x14), x14 ^^^ (x11 &&& ~~~x10), x15 ^^^ (x17 &&& ~~~x16), x16 ^^^ (x18 &&& ~~~x17), x17 ^^^ (x19 &&& ~~~x18), x18 ^^^ (x15 &&& ~~~x19), x19 ^^^ (x16 &&& ~~~x15), x20 ^^^ (x22 &&& ~~~x21), x21 ^^^ (x23 &&& ~~~x22), x22 ^^^ (x24 &&& ~~~x23), x23 ^^^ (x20 &&& ~~~x24), x24 ^^^ (x21 &&& ~~~x20)] := by kernel_rfl

def uchiR {α : Type} (c a0 a1 a2 a3 a4 a5 a6 a7 a8 a9 a10 a11 a12 a13 a14 a15 a16 a17 a18 a19 a20 a21 a22 a23 a24 : UInt64) (K : UInt64 → UInt64 → UInt64 → UInt64 → UInt64 → UInt64 → UInt64 → UInt64 → UInt64 → UInt64 → UInt64 → UInt64 → UInt64 → UInt64 → UInt64 → UInt64 → UInt64 → UInt64 → UInt64 → UInt64 → UInt64 → UInt64 → UInt64 → UInt64 → UInt64 → α) : α :=
  K ((a0 ^^^ (a2 &&& ~~~a1)) ^^^ c) (a1 ^^^ (a3 &&& ~~~a2)) (a2 ^^^ (a4 &&& ~~~a3)) (a3 ^^^ (a0 &&& ~~~a4)) (a4 ^^^ (a1 &&& ~~~a0)) (a5 ^^^ (a7 &&& ~~~a6)) (a6 ^^^ (a8 &&& ~~~a7)) (a7 ^^^ (a9 &&& ~~~a8)) (a8 ^^^ (a5 &&& ~~~a9)) (a9 ^^^ (a6 &&& ~~~a5)) (a10 ^^^ (a12 &&& ~~~a11)) (a11 ^^^ (a13 &&& ~~~a12)) (a12 ^^^ (a14 &&& ~~~a13)) (a13 ^^^ (a10 &&& ~~~a14)) (a14 ^^^ (a11 &&& ~~~a10)) (a15 ^^^ (a17 &&& ~~~a16)) (a16 ^^^ (a18 &&& ~~~a17)) (a17 ^^^ (a19 &&& ~~~a18)) (a18 ^^^ (a15 &&& ~~~a19)) (a19 ^^^ (a16 &&& ~~~a15)) (a20 ^^^ (a22 &&& ~~~a21)) (a21 ^^^ (a23 &&& ~~~a22)) (a22 ^^^ (a24 &&& ~~~a23)) (a23 ^^^ (a20 &&& ~~~a24)) (a24 ^^^ (a21 &&& ~~~a20))
def urhoR {α : Type} (c a0 a1 a2 a3 a4 a5 a6 a7 a8 a9 a10 a11 a12 a13 a14 a15 a16 a17 a18 a19 a20 a21 a22 a23 a24 : UInt64) (K : UInt64 → UInt64 → UInt64 → UInt64 → UInt64 → UInt64 → UInt64 → UInt64 → UInt64 → UInt64 → UInt64 → UInt64 → UInt64 → UInt64 → UInt64 → UInt64 → UInt64 → UInt64 → UInt64 → UInt64 → UInt64 → UInt64 → UInt64 → UInt64 → UInt64 → α) : α :=
  uchiR c (rotl a0 0) (rotl a6 44) (rotl a12 43) (rotl a18 21) (rotl a24 14) (rotl a3 28) (rotl a9 20) (rotl a10 3) (rotl a16 45) (rotl a22 61) (rotl a1 1) (rotl a7 6) (rotl a13 25) (rotl a19 8) (rotl a20 18) (rotl a4 27) (rotl a5 36) (rotl a11 10) (rotl a17 15) (rotl a23 56) (rotl a2 62) (rotl a8 55) (rotl a14 39) (rotl a15 41) (rotl a21 2) K
def uthR {α : Type} (c a0 a1 a2 a3 a4 a5 a6 a7 a8 a9 a10 a11 a12 a13 a14 a15 a16 a17 a18 a19 a20 a21 a22 a23 a24 d0 d1 d2 d3 d4 : UInt64) (K : UInt64 → UInt64 → UInt64 → UInt64 → UInt64 → UInt64 → UInt64 → UInt64 → UInt64 → UInt64 → UInt64 → UInt64 → UInt64 → UInt64 → UInt64 → UInt64 → UInt64 → UInt64 → UInt64 → UInt64 → UInt64 → UInt64 → UInt64 → UInt64 → UInt64 → α) : α :=
  urhoR c (a0 ^^^ d0) (a1 ^^^ d1) (a2 ^^^ d2) (a3 ^^^ d3) (a4 ^^^ d4) (a5 ^^^ d0) (a6 ^^^ d1) (a7 ^^^ d2) (a8 ^^^ d3) (a9 ^^^ d4) (a10 ^^^ d0) (a11 ^^^ d1) (a12 ^^^ d2) (a13 ^^^ d3) (a14 ^^^ d4) (a15 ^^^ d0) (a16 ^^^ d1) (a17 ^^^ d2) (a18 ^^^ d3) (a19 ^^^ d4) (a20 ^^^ d0) (a21 ^^^ d1) (a22 ^^^ d2) (a23 ^^^ d3) (a24 ^^^ d4) K
def ucR {α : Type} (c a0 a1 a2 a3 a4 a5 a6 a7 a8 a9 a10 a11 a12 a13 a14 a15 a16 a17 a18 a19 a20 a21 a22 a23 a24 c0 c1 c2 c3 c4 : UInt64) (K : UInt64 → UInt64 → UInt64 → UInt64 → UInt64 → UInt64 → UInt64 → UInt64 → UInt64 → UInt64 → UInt64 → UInt64 → UInt64 → UInt64 → UInt64 → UInt64 → UInt64 → UInt64 → UInt64 → UInt64 → UInt64 → UInt64 → UInt64 → UInt64 → UInt64 → α) : α :=
  uthR c a0 a1 a2 a3 a4 a5 a6 a7 a8 a9 a10 a11 a12 a13 a14 a15 a16 a17 a18 a19 a20 a21 a22 a23 a24 (c4 ^^^ rotl c1 1) (c0 ^^^ rotl c2 1) (c1 ^^^ rotl c3 1) (c2 ^^^ rotl c4 1) (c3 ^^^ rotl c0 1) K
def uround {α : Type} (c a0 a1 a2 a3 a4 a5 a6 a7 a8 a9 a10 a11 a12 a13 a14 a15 a16 a17 a18 a19 a20 a21 a22 a23 a24 : UInt64) (K : UInt64 → UInt64 → UInt64 → UInt64 → UInt64 → UInt64 → UInt64 → UInt64 → UInt64 → UInt64 → UInt64 → UInt64 → UInt64 → UInt64 → UInt64 → UInt64 → UInt64 → UInt64 → UInt64 → UInt64 → UInt64 → UInt64 → UInt64 → UInt64 → UInt64 → α) : α :=
  ucR c a0 a1 a2 a3 a4 a5 a6 a7 a8 a9 a10 a11 a12 a13 a14 a15 a16 a17 a18 a19 a20 a21 a22 a23 a24 (a0 ^^^ a5 ^^^ a10 ^^^ a15 ^^^ a20) (a1 ^^^ a6 ^^^ a11 ^^^ a16 ^^^ a21) (a2 ^^^ a7 ^^^ a12 ^^^ a17 ^^^ a22) (a3 ^^^ a8 ^^^ a13 ^^^ a18 ^^^ a23) (a4 ^^^ a9 ^^^ a14 ^^^ a19 ^^^ a24) K
theorem uround_eq (k : Nat) (x0 x1 x2 x3 x4 x5 x6 x7 x8 x9 x10 x11 x12 x13 x14 x15 x16 x17 x18 x19 x20 x21 x22 x23 x24 : UInt64) : kround [x0, x1, x2, x3, x4, x5, x6, x7, x8, x9, x10, x11, x12, x13, x14, x15, x16, x17, x18, x19, x20, x21, x22, x23, x24] k = uround (consts.getD k 0) x0 x1 x2 x3 x4 x5 x6 x7 x8 x9 x10 x11 x12 x13 x14 x15 x16 x17 x18 x19 x20 x21 x22 x23 x24 (fun a0 a1 a2 a3 a4 a5 a6 a7 a8 a9 a10 a11 a12 a13 a14 a15 a16 a17 a18 a19 a20 a21 a22 a23 a24 => [a0, a1, a2, a3, a4, a5, a6, a7, a8, a9, a10, a11, a12, a13, a14, a15, a16, a17, a18, a19, a20, a21, a22, a23, a24]) := by
  have h := thC_of x0 x1 x2 x3 x4 x5 x6 x7 x8 x9 x10 x11 x12 x13 x14 x15 x16 x17 x18 x19 x20 x21 x22 x23 x24
  unfold kround
  rw [theta_of x0 x1 x2 x3 x4 x5 x6 x7 x8 x9 x10 x11 x12 x13 x14 x15 x16 x17 x18 x19 x20 x21 x22 x23 x24 _ _ _ _ _ h, rho_of, pi_of, chi_of]
  show (_ : List UInt64) = _
  kernel_rfl
theorem nchiR_eq {α : Type} (c a0 a1 a2 a3 a4 a5 a6 a7 a8 a9 a10 a11 a12 a13 a14 a15 a16 a17 a18 a19 a20 a21 a22 a23 a24 : UInt64) (K : Nat → Nat → Nat → Nat → Nat → Nat → Nat → Nat → Nat → Nat → Nat → Nat → Nat → Nat → Nat → Nat → Nat → Nat → Nat → Nat → Nat → Nat → Nat → Nat → Nat → α) : nchiR c.toNat a0.toNat a1.toNat a2.toNat a3.toNat a4.toNat a5.toNat a6.toNat a7.toNat a8.toNat a9.toNat a10.toNat a11.toNat a12.toNat a13.toNat a14.toNat a15.toNat a16.toNat a17.toNat a18.toNat a19.toNat a20.toNat a21.toNat a22.toNat a23.toNat a24.toNat K = uchiR c a0 a1 a2 a3 a4 a5 a6 a7 a8 a9 a10 a11 a12 a13 a14 a15 a16 a17 a18 a19 a20 a21 a22 a23 a24 (fun a0 a1 a2 a3 a4 a5 a6 a7 a8 a9 a10 a11 a12 a13 a14 a15 a16 a17 a18 a19 a20 a21 a22 a23 a24 => K a0.toNat a1.toNat a2.toNat a3.toNat a4.toNat a5.toNat a6.toNat a7.toNat a8.toNat a9.toNat a10.toNat a11.toNat a12.toNat a13.toNat a14.toNat a15.toNat a16.toNat a17.toNat a18.toNat a19.toNat a20.toNat a21.toNat a22.toNat a23.toNat a24.toNat) := by
  simp only [nchiR, uchiR, UInt64.toNat_xor, ← nchi_eq]; rfl
theorem nrhoR_eq {α : Type} (c a0 a1 a2 a3 a4 a5 a6 a7 a8 a9 a10 a11 a12 a13 a14 a15 a16 a17 a18 a19 a20 a21 a22 a23 a24 : UInt64) (K : Nat → Nat → Nat → Nat → Nat → Nat → Nat → Nat → Nat → Nat → Nat → Nat → Nat → Nat → Nat → Nat → Nat → Nat → Nat → Nat → Nat → Nat → Nat → Nat → Nat → α) : nrhoR c.toNat a0.toNat a1.toNat a2.toNat a3.toNat a4.toNat a5.toNat a6.toNat a7.toNat a8.toNat a9.toNat a10.toNat a11.toNat a12.toNat a13.toNat a14.toNat a15.toNat a16.toNat a17.toNat a18.toNat a19.toNat a20.toNat a21.toNat a22.toNat a23.toNat a24.toNat K = urhoR c a0 a1 a2 a3 a4 a5 a6 a7 a8 a9 a10 a11 a12 a13 a14 a15 a16 a17 a18 a19 a20 a21 a22 a23 a24 (fun a0 a1 a2 a3 a4 a5 a6 a7 a8 a9 a10 a11 a12 a13 a14 a15 a16 a17 a18 a19 a20 a21 a22 a23 a24 => K a0.toNat a1.toNat a2.toNat a3.toNat a4.toNat a5.toNat a6.toNat a7.toNat a8.toNat a9.toNat a10.toNat a11.toNat a12.toNat a13.toNat a14.toNat a15.toNat a16.toNat a17.toNat a18.toNat a19.toNat a20.toNat a21.toNat a22.toNat a23.toNat a24.toNat) := by
  unfold nrhoR urhoR
  rw [← nrot_eq a0 0 64 (by omega) rfl, ← nrot_eq a1 1 63 (by omega) rfl, ← nrot_eq a2 62 2 (by omega) rfl, ← nrot_eq a3 28 36 (by omega) rfl, ← nrot_eq a4 27 37 (by omega) rfl, ← nrot_eq a5 36 28 (by omega) rfl, ← nrot_eq a6 44 20 (by omega) rfl, ← nrot_eq a7 6 58 (by omega) rfl, ← nrot_eq a8 55 9 (by omega) rfl, ← nrot_eq a9 20 44 (by omega) rfl, ← nrot_eq a10 3 61 (by omega) rfl, ← nrot_eq a11 10 54 (by omega) rfl, ← nrot_eq a12 43 21 (by omega) rfl, ← nrot_eq a13 25 39 (by omega) rfl, ← nrot_eq a14 39 25 (by omega) rfl, ← nrot_eq a15 41 23 (by omega) rfl, ← nrot_eq a16 45 19 (by omega) rfl, ← nrot_eq a17 15 49 (by omega) rfl, ← nrot_eq a18 21 43 (by omega) rfl, ← nrot_eq a19 8 56 (by omega) rfl, ← nrot_eq a20 18 46 (by omega) rfl, ← nrot_eq a21 2 62 (by omega) rfl, ← nrot_eq a22 61 3 (by omega) rfl, ← nrot_eq a23 56 8 (by omega) rfl, ← nrot_eq a24 14 50 (by omega) rfl]
  exact nchiR_eq c _ _ _ _ _ _ _ _ _ _ _ _ _ _ _ _ _ _ _ _ _ _ _ _ _ K
theorem nxor_eq (x y : UInt64) : Nat.xor x.toNat y.toNat = (x ^^^ y).toNat := (UInt64.toNat_xor x y).symm
theorem nthR_eq {α : Type} (c a0 a1 a2 a3 a4 a5 a6 a7 a8 a9 a10 a11 a12 a13 a14 a15 a16 a17 a18 a19 a20 a21 a22 a23 a24 d0 d1 d2 d3 d4 : UInt64) (K : Nat → Nat → Nat → Nat → Nat → Nat → Nat → Nat → Nat → Nat → Nat → Nat → Nat → Nat → Nat → Nat → Nat → Nat → Nat → Nat → Nat → Nat → Nat → Nat → Nat → α) : nthR c.toNat a0.toNat a1.toNat a2.toNat a3.toNat a4.toNat a5.toNat a6.toNat a7.toNat a8.toNat a9.toNat a10.toNat a11.toNat a12.toNat a13.toNat a14.toNat a15.toNat a16.toNat a17.toNat a18.toNat a19.toNat a20.toNat a21.toNat a22.toNat a23.toNat a24.toNat d0.toNat d1.toNat d2.toNat d3.toNat d4.toNat K = uthR c a0 a1 a2 a3 a4 a5 a6 a7 a8 a9 a10 a11 a12 a13 a14 a15 a16 a17 a18 a19 a20 a21 a22 a23 a24 d0 d1 d2 d3 d4 (fun a0 a1 a2 a3 a4 a5 a6 a7 a8 a9 a10 a11 a12 a13 a14 a15 a16 a17 a18 a19 a20 a21 a22 a23 a24 => K a0.toNat a1.toNat a2.toNat a3.toNat a4.toNat a5.toNat a6.toNat a7.toNat a8.toNat a9.toNat a10.toNat a11.toNat a12.toNat a13.toNat a14.toNat a15.toNat a16.toNat a17.toNat a18.toNat a19.toNat a20.toNat a21.toNat a22.toNat a23.toNat a24.toNat) := by
  unfold nthR uthR
  simp only [nxor_eq]
  exact nrhoR_eq c _ _ _ _ _ _ _ _ _ _ _ _ _ _ _ _ _ _ _ _ _ _ _ _ _ K
theorem ncR_eq {α : Type} (c a0 a1 a2 a3 a4 a5 a6 a7 a8 a9 a10 a11 a12 a13 a14 a15 a16 a17 a18 a19 a20 a21 a22 a23 a24 c0 c1 c2 c3 c4 : UInt64) (K : Nat → Nat → Nat → Nat → Nat → Nat → Nat → Nat → Nat → Nat → Nat → Nat → Nat → Nat → Nat → Nat → Nat → Nat → Nat → Nat → Nat → Nat → Nat → Nat → Nat → α) : ncR c.toNat a0.toNat a1.toNat a2.toNat a3.toNat a4.toNat a5.toNat a6.toNat a7.toNat a8.toNat a9.toNat a10.toNat a11.toNat a12.toNat a13.toNat a14.toNat a15.toNat a16.toNat a17.toNat a18.toNat a19.toNat a20.toNat a21.toNat a22.toNat a23.toNat a24.toNat c0.toNat c1.toNat c2.toNat c3.toNat c4.toNat K = ucR c a0 a1 a2 a3 a4 a5 a6 a7 a8 a9 a10 a11 a12 a13 a14 a15 a16 a17 a18 a19 a20 a21 a22 a23 a24 c0 c1 c2 c3 c4 (fun a0 a1 a2 a3 a4 a5 a6 a7 a8 a9 a10 a11 a12 a13 a14 a15 a16 a17 a18 a19 a20 a21 a22 a23 a24 => K a0.toNat a1.toNat a2.toNat a3.toNat a4.toNat a5.toNat a6.toNat a7.toNat a8.toNat a9.toNat a10.toNat a11.toNat a12.toNat a13.toNat a14.toNat a15.toNat a16.toNat a17.toNat a18.toNat a19.toNat a20.toNat a21.toNat a22.toNat a23.toNat a24.toNat) := by
  unfold ncR ucR
  simp only [← nmix_eq]
  exact nthR_eq c a0 a1 a2 a3 a4 a5 a6 a7 a8 a9 a10 a11 a12 a13 a14 a15 a16 a17 a18 a19 a20 a21 a22 a23 a24 _ _ _ _ _ K
theorem nround_eq {α : Type} (c a0 a1 a2 a3 a4 a5 a6 a7 a8 a9 a10 a11 a12 a13 a14 a15 a16 a17 a18 a19 a20 a21 a22 a23 a24 : UInt64) (K : Nat → Nat → Nat → Nat → Nat → Nat → Nat → Nat → Nat → Nat → Nat → Nat → Nat → Nat → Nat → Nat → Nat → Nat → Nat → Nat → Nat → Nat → Nat → Nat → Nat → α) : nround c.toNat a0.toNat a1.toNat a2.toNat a3.toNat a4.toNat a5.toNat a6.toNat a7.toNat a8.toNat a9.toNat a10.toNat a11.toNat a12.toNat a13.toNat a14.toNat a15.toNat a16.toNat a17.toNat a18.toNat a19.toNat a20.toNat a21.toNat a22.toNat a23.toNat a24.toNat K = uround c a0 a1 a2 a3 a4 a5 a6 a7 a8 a9 a10 a11 a12 a13 a14 a15 a16 a17 a18 a19 a20 a21 a22 a23 a24 (fun a0 a1 a2 a3 a4 a5 a6 a7 a8 a9 a10 a11 a12 a13 a14 a15 a16 a17 a18 a19 a20 a21 a22 a23 a24 => K a0.toNat a1.toNat a2.toNat a3.toNat a4.toNat a5.toNat a6.toNat a7.toNat a8.toNat a9.toNat a10.toNat a11.toNat a12.toNat a13.toNat a14.toNat a15.toNat a16.toNat a17.toNat a18.toNat a19.toNat a20.toNat a21.toNat a22.toNat a23.toNat a24.toNat) := by
  unfold nround uround nfive
  simp only [nxor_eq]
  exact ncR_eq c a0 a1 a2 a3 a4 a5 a6 a7 a8 a9 a10 a11 a12 a13 a14 a15 a16 a17 a18 a19 a20 a21 a22 a23 a24 _ _ _ _ _ K

/-- Rounds by a list of constants. -/
def iotaC (c : UInt64) (l : List UInt64) : List UInt64 := l.set 0 (l.getD 0 0 ^^^ c)
def kperm (l : List UInt64) : List UInt64 := chi (pi (rho (theta l)))
def kstep (l : List UInt64) (c : UInt64) : List UInt64 := iotaC c (kperm l)
def krs (l : List UInt64) : List UInt64 → List UInt64
  | [] => l
  | c :: cs => krs (kstep l c) cs
def krsA (l cs : List UInt64) : Nat → List UInt64
  | 0 => l
  | k + 1 => kstep (krsA l cs k) (cs.getD k 0)
theorem krsA_cons (l : List UInt64) (c : UInt64) (cs : List UInt64) : ∀ k, krsA l (c :: cs) (k + 1) = krsA (kstep l c) cs k
  | 0 => by simp only [krsA, List.getD_cons_zero]
  | k + 1 => by rw [krsA, krsA_cons l c cs k, krsA, List.getD_cons_succ]
theorem krs_eq : ∀ (cs l : List UInt64), krs l cs = krsA l cs cs.length
  | [], l => by simp only [krs, krsA, List.length_nil]
  | c :: cs, l => by rw [krs, krs_eq cs, List.length_cons, krsA_cons]
theorem kstep_round (l : List UInt64) (k : Nat) : kstep l (consts.getD k 0) = kround l k := by unfold kstep iotaC kround iota kperm; exact Eq.refl _
theorem krsA_kfA (l : List UInt64) : ∀ k, krsA l consts k = kfA l k
  | 0 => by simp only [krsA, kfA]
  | k + 1 => by simp only [krsA, kfA, krsA_kfA l k, kstep_round]
theorem krs_kf (l : List UInt64) : krs l consts = kf l := by
  have h : consts.length = 24 := rfl
  rw [krs_eq, h, krsA_kfA]; unfold kf; exact Eq.refl _
theorem uround_get (c : UInt64) (x0 x1 x2 x3 x4 x5 x6 x7 x8 x9 x10 x11 x12 x13 x14 x15 x16 x17 x18 x19 x20 x21 x22 x23 x24 : UInt64) : uround c x0 x1 x2 x3 x4 x5 x6 x7 x8 x9 x10 x11 x12 x13 x14 x15 x16 x17 x18 x19 x20 x21 x22 x23 x24 (fun a0 a1 a2 a3 a4 a5 a6 a7 a8 a9 a10 a11 a12 a13 a14 a15 a16 a17 a18 a19 a20 a21 a22 a23 a24 => [a0, a1, a2, a3, a4, a5, a6, a7, a8, a9, a10, a11, a12, a13, a14, a15, a16, a17, a18, a19, a20, a21, a22, a23, a24]) = kstep [x0, x1, x2, x3, x4, x5, x6, x7, x8, x9, x10, x11, x12, x13, x14, x15, x16, x17, x18, x19, x20, x21, x22, x23, x24] c := by
  unfold kstep iotaC kperm
  have h := thC_of x0 x1 x2 x3 x4 x5 x6 x7 x8 x9 x10 x11 x12 x13 x14 x15 x16 x17 x18 x19 x20 x21 x22 x23 x24
  rw [theta_of x0 x1 x2 x3 x4 x5 x6 x7 x8 x9 x10 x11 x12 x13 x14 x15 x16 x17 x18 x19 x20 x21 x22 x23 x24 _ _ _ _ _ h, rho_of, pi_of, chi_of]
  show (_ : List UInt64) = _
  kernel_rfl
theorem uround_fold (c x0 x1 x2 x3 x4 x5 x6 x7 x8 x9 x10 x11 x12 x13 x14 x15 x16 x17 x18 x19 x20 x21 x22 x23 x24 : UInt64) (cs : List UInt64) : uround c x0 x1 x2 x3 x4 x5 x6 x7 x8 x9 x10 x11 x12 x13 x14 x15 x16 x17 x18 x19 x20 x21 x22 x23 x24 (fun a0 a1 a2 a3 a4 a5 a6 a7 a8 a9 a10 a11 a12 a13 a14 a15 a16 a17 a18 a19 a20 a21 a22 a23 a24 => (krs [a0, a1, a2, a3, a4, a5, a6, a7, a8, a9, a10, a11, a12, a13, a14, a15, a16, a17, a18, a19, a20, a21, a22, a23, a24] cs).map (·.toNat)) = (krs (uround c x0 x1 x2 x3 x4 x5 x6 x7 x8 x9 x10 x11 x12 x13 x14 x15 x16 x17 x18 x19 x20 x21 x22 x23 x24 (fun a0 a1 a2 a3 a4 a5 a6 a7 a8 a9 a10 a11 a12 a13 a14 a15 a16 a17 a18 a19 a20 a21 a22 a23 a24 => [a0, a1, a2, a3, a4, a5, a6, a7, a8, a9, a10, a11, a12, a13, a14, a15, a16, a17, a18, a19, a20, a21, a22, a23, a24])) cs).map (·.toNat) := by kernel_rfl
theorem nrounds_eq : ∀ (cs : List UInt64) (x0 x1 x2 x3 x4 x5 x6 x7 x8 x9 x10 x11 x12 x13 x14 x15 x16 x17 x18 x19 x20 x21 x22 x23 x24 : UInt64), nrounds (cs.map (·.toNat)) x0.toNat x1.toNat x2.toNat x3.toNat x4.toNat x5.toNat x6.toNat x7.toNat x8.toNat x9.toNat x10.toNat x11.toNat x12.toNat x13.toNat x14.toNat x15.toNat x16.toNat x17.toNat x18.toNat x19.toNat x20.toNat x21.toNat x22.toNat x23.toNat x24.toNat = (krs [x0, x1, x2, x3, x4, x5, x6, x7, x8, x9, x10, x11, x12, x13, x14, x15, x16, x17, x18, x19, x20, x21, x22, x23, x24] cs).map (·.toNat)
  | [], x0, x1, x2, x3, x4, x5, x6, x7, x8, x9, x10, x11, x12, x13, x14, x15, x16, x17, x18, x19, x20, x21, x22, x23, x24 => rfl
  | c :: cs, x0, x1, x2, x3, x4, x5, x6, x7, x8, x9, x10, x11, x12, x13, x14, x15, x16, x17, x18, x19, x20, x21, x22, x23, x24 => by
    show nround c.toNat x0.toNat x1.toNat x2.toNat x3.toNat x4.toNat x5.toNat x6.toNat x7.toNat x8.toNat x9.toNat x10.toNat x11.toNat x12.toNat x13.toNat x14.toNat x15.toNat x16.toNat x17.toNat x18.toNat x19.toNat x20.toNat x21.toNat x22.toNat x23.toNat x24.toNat (nrounds (cs.map (·.toNat))) = _
    have ih : (fun a0 a1 a2 a3 a4 a5 a6 a7 a8 a9 a10 a11 a12 a13 a14 a15 a16 a17 a18 a19 a20 a21 a22 a23 a24 => nrounds (cs.map (·.toNat)) a0.toNat a1.toNat a2.toNat a3.toNat a4.toNat a5.toNat a6.toNat a7.toNat a8.toNat a9.toNat a10.toNat a11.toNat a12.toNat a13.toNat a14.toNat a15.toNat a16.toNat a17.toNat a18.toNat a19.toNat a20.toNat a21.toNat a22.toNat a23.toNat a24.toNat) = (fun a0 a1 a2 a3 a4 a5 a6 a7 a8 a9 a10 a11 a12 a13 a14 a15 a16 a17 a18 a19 a20 a21 a22 a23 a24 => (krs [a0, a1, a2, a3, a4, a5, a6, a7, a8, a9, a10, a11, a12, a13, a14, a15, a16, a17, a18, a19, a20, a21, a22, a23, a24] cs).map (·.toNat)) := by funext a0 a1 a2 a3 a4 a5 a6 a7 a8 a9 a10 a11 a12 a13 a14 a15 a16 a17 a18 a19 a20 a21 a22 a23 a24; exact nrounds_eq cs a0 a1 a2 a3 a4 a5 a6 a7 a8 a9 a10 a11 a12 a13 a14 a15 a16 a17 a18 a19 a20 a21 a22 a23 a24
    rw [nround_eq, ih, krs, ← uround_get c x0 x1 x2 x3 x4 x5 x6 x7 x8 x9 x10 x11 x12 x13 x14 x15 x16 x17 x18 x19 x20 x21 x22 x23 x24]
    exact uround_fold c x0 x1 x2 x3 x4 x5 x6 x7 x8 x9 x10 x11 x12 x13 x14 x15 x16 x17 x18 x19 x20 x21 x22 x23 x24 cs
theorem nkf_eq (l : List UInt64) (h : l.length = 25) : nkf (l.map (·.toNat)) = (kf l).map (·.toNat) := by
  match l, h with
  | [x0, x1, x2, x3, x4, x5, x6, x7, x8, x9, x10, x11, x12, x13, x14, x15, x16, x17, x18, x19, x20, x21, x22, x23, x24], _ =>
    rw [← krs_kf, ← nrounds_eq]
    rfl
theorem nkf_len (l : List UInt64) (h : l.length = 25) : (nkf (l.map (·.toNat))).length = 25 := by rw [nkf_eq l h, List.length_map, kf_len l h]
end Go.Rx
