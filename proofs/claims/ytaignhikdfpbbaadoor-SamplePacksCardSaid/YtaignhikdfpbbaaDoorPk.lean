/- Plain functions: the permutation as the program reckons it. No program and no memory here. -/
namespace Go.Rx

/-- A shift to the right by whatever number. -/
def shrG (p : UInt64) (q : Nat) : UInt64 := if q ≥ 64 then 0 else p >>> UInt64.ofNat q
def rotl (x : UInt64) (k : Nat) : UInt64 := x <<< UInt64.ofNat (k % 2 ^ 6) ||| shrG x (64 - k % 2 ^ 6)

def turns : List Nat := [0, 1, 62, 28, 27, 36, 44, 6, 55, 20, 3, 10, 43, 25, 39, 41, 45, 15, 21, 8, 18, 2, 61, 56, 14]
theorem turns_lt : ∀ i, i < 25 → turns.getD i 0 < 64 := by decide
def consts : List UInt64 := [0x0000000000000001, 0x0000000000008082, 0x800000000000808a, 0x8000000080008000, 0x000000000000808b, 0x0000000080000001, 0x8000000080008081, 0x8000000000008009,
  0x000000000000008a, 0x0000000000000088, 0x0000000080008009, 0x000000008000000a, 0x000000008000808b, 0x800000000000008b, 0x8000000000008089, 0x8000000000008003,
  0x8000000000008002, 0x8000000000000080, 0x000000000000800a, 0x800000008000000a, 0x8000000080008081, 0x8000000000008080, 0x0000000080000001, 0x8000000080008008]

def thC (l : List UInt64) : Nat → List UInt64
  | 0 => List.replicate 5 0
  | k + 1 => (thC l k).set k (l.getD k 0 ^^^ l.getD (k + 5) 0 ^^^ l.getD (k + 10) 0 ^^^ l.getD (k + 15) 0 ^^^ l.getD (k + 20) 0)
theorem thC_len (l : List UInt64) : ∀ k, (thC l k).length = 5
  | 0 => List.length_replicate
  | k + 1 => by rw [thC, List.length_set]; exact thC_len l k
def thA (l : List UInt64) : Nat → List UInt64
  | 0 => l
  | k + 1 => (thA l k).set k ((thA l k).getD k 0 ^^^ ((thC l 5).getD ((k % 5 + 4) % 5) 0 ^^^ rotl ((thC l 5).getD ((k % 5 + 1) % 5) 0) 1))
theorem thA_len (l : List UInt64) : ∀ k, (thA l k).length = l.length
  | 0 => rfl
  | k + 1 => by rw [thA, List.length_set]; exact thA_len l k
def theta (l : List UInt64) : List UInt64 := thA l 25
theorem theta_len (l : List UInt64) : (theta l).length = l.length := thA_len l 25

def rhoA (l : List UInt64) : Nat → List UInt64
  | 0 => l
  | k + 1 => (rhoA l k).set k (rotl ((rhoA l k).getD k 0) (turns.getD k 0))
theorem rhoA_len (l : List UInt64) : ∀ k, (rhoA l k).length = l.length
  | 0 => rfl
  | k + 1 => by rw [rhoA, List.length_set]; exact rhoA_len l k
def rho (l : List UInt64) : List UInt64 := rhoA l 25
theorem rho_len (l : List UInt64) : (rho l).length = l.length := rhoA_len l 25

def piA (l : List UInt64) : Nat → List UInt64
  | 0 => List.replicate 25 0
  | k + 1 => (piA l k).set k (l.getD ((k % 5 + 3 * (k / 5)) % 5 + 5 * (k % 5)) 0)
theorem piA_len (l : List UInt64) : ∀ k, (piA l k).length = 25
  | 0 => List.length_replicate
  | k + 1 => by rw [piA, List.length_set]; exact piA_len l k
def pi (l : List UInt64) : List UInt64 := piA l 25
theorem pi_len (l : List UInt64) : (pi l).length = 25 := piA_len l 25

def chiA (l : List UInt64) : Nat → List UInt64
  | 0 => l
  | k + 1 => (chiA l k).set k ((chiA l k).getD k 0 ^^^ (l.getD (k - k % 5 + (k % 5 + 2) % 5) 0 &&& ~~~(l.getD (k - k % 5 + (k % 5 + 1) % 5) 0)))
theorem chiA_len (l : List UInt64) : ∀ k, (chiA l k).length = l.length
  | 0 => rfl
  | k + 1 => by rw [chiA, List.length_set]; exact chiA_len l k
def chi (l : List UInt64) : List UInt64 := chiA l 25
theorem chi_len (l : List UInt64) : (chi l).length = l.length := chiA_len l 25

theorem consts_ne : ∀ k, k < 24 → consts.getD k 0 ≠ 0 := by decide
/-- For a round from 0 to 23. -/
def iota (l : List UInt64) (k : Nat) : List UInt64 := l.set 0 (l.getD 0 0 ^^^ consts.getD k 0)
theorem iota_len (l : List UInt64) (k : Nat) : (iota l k).length = l.length := by rw [iota, List.length_set]

theorem iota_zero (k : Nat) (hk : k < 24) : ¬ iota (List.replicate 25 0) k = List.replicate 25 0 := by
  intro h
  have h2 := congrArg (fun m => m.getD 0 0) h
  simp [iota, List.replicate] at h2
  exact consts_ne k hk h2

def kround (l : List UInt64) (k : Nat) : List UInt64 := iota (chi (pi (rho (theta l)))) k
theorem kround_len (l : List UInt64) (k : Nat) : (kround l k).length = 25 := by rw [kround, iota_len, chi_len, pi_len]

def kfA (l : List UInt64) : Nat → List UInt64
  | 0 => l
  | k + 1 => kround (kfA l k) k
theorem kfA_len (l : List UInt64) (h : l.length = 25) : ∀ k, (kfA l k).length = 25
  | 0 => h
  | _ + 1 => kround_len _ _
def kf (l : List UInt64) : List UInt64 := kfA l 24
theorem kf_len (l : List UInt64) (h : l.length = 25) : (kf l).length = 25 := kfA_len l h 24
end Go.Rx
