/- Plain functions: the document's answer for the permutation as its text reckons it (bit by bit, and lane by lane). No program and no memory here. -/
import Derived.Test.YtaignhikdfpbbaaDoorPk
namespace Go.Rx

def bitI (l : List UInt64) (x y z : Int) : Nat := ((l.getD (((x + 10) % 5).toNat + 5 * ((y + 10) % 5).toNat) 0 >>> UInt64.ofNat ((z + 128) % 64).toNat) &&& 1).toNat
theorem bitI_le (l : List UInt64) (x y z : Int) : bitI l x y z ≤ 1 := by
  unfold bitI
  rw [UInt64.toNat_and]
  have := Nat.and_le_right (n := (l.getD (((x + 10) % 5).toNat + 5 * ((y + 10) % 5).toNat) 0 >>> UInt64.ofNat ((z + 128) % 64).toNat).toNat) (m := (1 : UInt64).toNat)
  simpa using this
def putL (l : List UInt64) (x y z : Nat) : List UInt64 := l.set (x + 5 * y) (l.getD (x + 5 * y) 0 + 1 <<< UInt64.ofNat z)
theorem putL_len (l : List UInt64) (x y z : Nat) : (putL l x y z).length = l.length := by rw [putL, List.length_set]

def thN (l : List UInt64) (x z : Nat) : Nat → Nat
  | 0 => 0
  | y + 1 => thN l x z y + (bitI l (((x : Nat) : Int) - 1) ((y : Nat) : Int) ((z : Nat) : Int) + bitI l ((x + 1 : Nat) : Int) ((y : Nat) : Int) (((z : Nat) : Int) - 1))
theorem thN_le (l : List UInt64) (x z : Nat) : ∀ y, thN l x z y ≤ 2 * y
  | 0 => Nat.le_refl _
  | y + 1 => by have := thN_le l x z y; have := bitI_le l (((x : Nat) : Int) - 1) ((y : Nat) : Int) ((z : Nat) : Int); have := bitI_le l ((x + 1 : Nat) : Int) ((y : Nat) : Int) (((z : Nat) : Int) - 1); simp only [thN]; omega
def thO (l : List UInt64) (x z : Nat) (out : List UInt64) : Nat → List UInt64
  | 0 => out
  | y + 1 => if (thN l x z 5 + bitI l ((x : Nat) : Int) ((y : Nat) : Int) ((z : Nat) : Int)) % 2 = 1 then putL (thO l x z out y) x y z else thO l x z out y
theorem thO_len (l : List UInt64) (x z : Nat) (out : List UInt64) : ∀ y, (thO l x z out y).length = out.length
  | 0 => rfl
  | y + 1 => by simp only [thO]; split <;> simp [putL_len, thO_len l x z out y]
def thZ (l : List UInt64) (x : Nat) (out : List UInt64) : Nat → List UInt64
  | 0 => out
  | z + 1 => thO l x z (thZ l x out z) 5
theorem thZ_len (l : List UInt64) (x : Nat) (out : List UInt64) : ∀ z, (thZ l x out z).length = out.length
  | 0 => rfl
  | z + 1 => by rw [thZ, thO_len, thZ_len l x out z]
def thX (l : List UInt64) : Nat → List UInt64
  | 0 => List.replicate 25 0
  | x + 1 => thZ l x (thX l x) 64
theorem thX_len (l : List UInt64) : ∀ x, (thX l x).length = 25
  | 0 => List.length_replicate
  | x + 1 => by rw [thX, thZ_len, thX_len l x]
def rTheta (l : List UInt64) : List UInt64 := thX l 5

/-- Where the walk over the lanes stands: x, y. -/
def rhXY : Nat → Nat × Nat
  | 0 => (1, 0)
  | t + 1 => ((rhXY t).2, (2 * (rhXY t).1 + 3 * (rhXY t).2) % 5)
theorem rhXY_lt : ∀ t, (rhXY t).1 < 5 ∧ (rhXY t).2 < 5
  | 0 => by decide
  | t + 1 => ⟨(rhXY_lt t).2, Nat.mod_lt _ (by decide)⟩
def rhBy (t : Nat) : Nat := (t + 1) * (t + 2) / 2 % 64
def rhZ (l : List UInt64) (x y by_ : Nat) (out : List UInt64) : Nat → List UInt64
  | 0 => out
  | z + 1 => if bitI l ((x : Nat) : Int) ((y : Nat) : Int) ((z : Nat) : Int) = 1 then putL (rhZ l x y by_ out z) x y ((z + by_) % 64) else rhZ l x y by_ out z
theorem rhZ_len (l : List UInt64) (x y by_ : Nat) (out : List UInt64) : ∀ z, (rhZ l x y by_ out z).length = out.length
  | 0 => rfl
  | z + 1 => by simp only [rhZ]; split <;> simp [putL_len, rhZ_len l x y by_ out z]
def rhT (l : List UInt64) : Nat → List UInt64
  | 0 => (List.replicate 25 0).set 0 (l.getD 0 0)
  | t + 1 => rhZ l (rhXY t).1 (rhXY t).2 (rhBy t) (rhT l t) 64
theorem rhT_len (l : List UInt64) : ∀ t, (rhT l t).length = 25
  | 0 => by simp [rhT]
  | t + 1 => by rw [rhT, rhZ_len, rhT_len l t]
def rRho (l : List UInt64) : List UInt64 := rhT l 24

def rpY (l : List UInt64) (x : Nat) (out : List UInt64) : Nat → List UInt64
  | 0 => out
  | y + 1 => (rpY l x out y).set (x + 5 * y) (l.getD ((x + 3 * y) % 5 + 5 * x) 0)
theorem rpY_len (l : List UInt64) (x : Nat) (out : List UInt64) : ∀ y, (rpY l x out y).length = out.length
  | 0 => rfl
  | y + 1 => by rw [rpY, List.length_set, rpY_len l x out y]
def rpX (l : List UInt64) : Nat → List UInt64
  | 0 => List.replicate 25 0
  | x + 1 => rpY l x (rpX l x) 5
theorem rpX_len (l : List UInt64) : ∀ x, (rpX l x).length = 25
  | 0 => List.length_replicate
  | x + 1 => by rw [rpX, rpY_len, rpX_len l x]
def rPi (l : List UInt64) : List UInt64 := rpX l 5

def rcN (l : List UInt64) (x y z : Nat) : Nat := if bitI l ((x + 1 : Nat) : Int) ((y : Nat) : Int) ((z : Nat) : Int) = 0 then (if bitI l ((x + 2 : Nat) : Int) ((y : Nat) : Int) ((z : Nat) : Int) = 1 then bitI l ((x : Nat) : Int) ((y : Nat) : Int) ((z : Nat) : Int) + 1 else bitI l ((x : Nat) : Int) ((y : Nat) : Int) ((z : Nat) : Int)) else bitI l ((x : Nat) : Int) ((y : Nat) : Int) ((z : Nat) : Int)
def rcZ (l : List UInt64) (x y : Nat) (out : List UInt64) : Nat → List UInt64
  | 0 => out
  | z + 1 => if rcN l x y z % 2 = 1 then putL (rcZ l x y out z) x y z else rcZ l x y out z
theorem rcZ_len (l : List UInt64) (x y : Nat) (out : List UInt64) : ∀ z, (rcZ l x y out z).length = out.length
  | 0 => rfl
  | z + 1 => by simp only [rcZ]; split <;> simp [putL_len, rcZ_len l x y out z]
def rcY (l : List UInt64) (x : Nat) (out : List UInt64) : Nat → List UInt64
  | 0 => out
  | y + 1 => rcZ l x y (rcY l x out y) 64
theorem rcY_len (l : List UInt64) (x : Nat) (out : List UInt64) : ∀ y, (rcY l x out y).length = out.length
  | 0 => rfl
  | y + 1 => by rw [rcY, rcZ_len, rcY_len l x out y]
def rcX (l : List UInt64) : Nat → List UInt64
  | 0 => List.replicate 25 0
  | x + 1 => rcY l x (rcX l x) 5
theorem rcX_len (l : List UInt64) : ∀ x, (rcX l x).length = 25
  | 0 => List.length_replicate
  | x + 1 => by rw [rcX, rcY_len, rcX_len l x]
def rChi (l : List UInt64) : List UInt64 := rcX l 5

def turnR (x : UInt64) (k : Nat) : UInt64 := if k = 0 then x else x <<< UInt64.ofNat k + x >>> UInt64.ofNat (64 - k)

theorem all_next {l m : List UInt64} {k : Nat} (h : ∀ j, j < k → l.getD j 0 = m.getD j 0) (hk : l.getD k 0 = m.getD k 0) : ∀ j, j < k + 1 → l.getD j 0 = m.getD j 0 := by
  intro j hj
  by_cases e : j = k
  · subst e; exact hk
  · exact h j (by omega)
theorem all_eq {l m : List UInt64} {k : Nat} (hl : l.length = k) (hm : m.length = k) (h : ∀ j, j < k → l.getD j 0 = m.getD j 0) : l = m := by
  apply List.ext_getElem (by omega)
  intro i h1 h2
  have := h i (by omega)
  simpa [List.getD, h1, h2] using this

/-! ### The rounds' constants by a shift register -/
def Le1 (l : List Nat) : Prop := ∀ i, l.getD i 0 ≤ 1
theorem Le1.set {l : List Nat} (h : Le1 l) (i x : Nat) : Le1 (l.set i (x % 2)) := by
  intro j
  rw [List.getD_eq_getElem?_getD, List.getElem?_set]
  split
  · split
    · simp; omega
    · simp
  · rw [← List.getD_eq_getElem?_getD]; exact h j
theorem Le1.cons {l : List Nat} (h : Le1 l) : Le1 ([0] ++ l) := by
  intro j
  cases j with
  | zero => simp
  | succ j => have := h j; simpa using this
theorem Le1.take {l : List Nat} (h : Le1 l) (n : Nat) : Le1 (l.take n) := by
  intro j
  rw [List.getD_eq_getElem?_getD, List.getElem?_take]
  split
  · rw [← List.getD_eq_getElem?_getD]; exact h j
  · simp
def rc0 (r : List Nat) : List Nat := [0] ++ r
def rc1 (r : List Nat) : List Nat := (rc0 r).set 0 (((rc0 r).getD 0 0 + (rc0 r).getD 8 0) % 2)
def rc2 (r : List Nat) : List Nat := (rc1 r).set 4 (((rc1 r).getD 4 0 + (rc1 r).getD 8 0) % 2)
def rc3 (r : List Nat) : List Nat := (rc2 r).set 5 (((rc2 r).getD 5 0 + (rc2 r).getD 8 0) % 2)
def rc4 (r : List Nat) : List Nat := (rc3 r).set 6 (((rc3 r).getD 6 0 + (rc3 r).getD 8 0) % 2)
theorem rc0_len (r : List Nat) : (rc0 r).length = 1 + r.length := by simp [rc0]; omega
theorem rc1_len (r : List Nat) : (rc1 r).length = 1 + r.length := by simp [rc1, rc0_len]
theorem rc2_len (r : List Nat) : (rc2 r).length = 1 + r.length := by simp [rc2, rc1_len]
theorem rc3_len (r : List Nat) : (rc3 r).length = 1 + r.length := by simp [rc3, rc2_len]
theorem rc4_len (r : List Nat) : (rc4 r).length = 1 + r.length := by simp [rc4, rc3_len]
theorem rc0_le {r : List Nat} (h : Le1 r) : Le1 (rc0 r) := h.cons
theorem rc1_le {r : List Nat} (h : Le1 r) : Le1 (rc1 r) := (rc0_le h).set 0 _
theorem rc2_le {r : List Nat} (h : Le1 r) : Le1 (rc2 r) := (rc1_le h).set 4 _
theorem rc3_le {r : List Nat} (h : Le1 r) : Le1 (rc3 r) := (rc2_le h).set 5 _
def rcL : Nat → List Nat
  | 0 => [1, 0, 0, 0, 0, 0, 0, 0]
  | k + 1 => (rc4 (rcL k)).take 8
theorem rcL_len : ∀ k, (rcL k).length = 8
  | 0 => rfl
  | k + 1 => by simp [rcL, rc4_len, rcL_len k]
theorem rcL_le : ∀ k, Le1 (rcL k)
  | 0 => fun i => match i with
    | 0 | 1 | 2 | 3 | 4 | 5 | 6 | 7 => by decide
    | i + 8 => by simp [rcL]
  | k + 1 => ((((((rcL_le k).cons).set 0 _).set 4 _).set 5 _).set 6 _).take 8
def rcv (t : Nat) : Nat := (rcL (t % 255)).getD 0 0

def riA (l : List UInt64) (i : Nat) : Nat → List UInt64
  | 0 => l
  | j + 1 => if rcv (j + 7 * i) = 1 then (if bitI l 0 0 ((1 * 2 ^ j - 1 : Nat) : Int) = 1 then (riA l i j).set 0 ((riA l i j).getD 0 0 - 1 <<< UInt64.ofNat (1 * 2 ^ j - 1)) else (riA l i j).set 0 ((riA l i j).getD 0 0 + 1 <<< UInt64.ofNat (1 * 2 ^ j - 1))) else riA l i j
theorem riA_len (l : List UInt64) (i : Nat) : ∀ j, (riA l i j).length = l.length
  | 0 => rfl
  | j + 1 => by simp only [riA]; (repeat' split) <;> simp [riA_len l i j]
def rIota (l : List UInt64) (i : Nat) : List UInt64 := riA l i 7
def rround (l : List UInt64) (k : Nat) : List UInt64 := rIota (rChi (rPi (rRho (rTheta l)))) k
theorem rround_len (l : List UInt64) (k : Nat) : (rround l k).length = 25 := by rw [rround, rIota, riA_len]; exact rcX_len _ 5
def rfA (l : List UInt64) : Nat → List UInt64
  | 0 => l
  | k + 1 => rround (rfA l k) k
theorem rfA_len (l : List UInt64) (h : l.length = 25) : ∀ k, (rfA l k).length = 25
  | 0 => h
  | _ + 1 => rround_len _ _
def rF (l : List UInt64) : List UInt64 := rfA l 24

theorem rTheta_len (l : List UInt64) : (rTheta l).length = 25 := thX_len l 5
theorem rRho_len (l : List UInt64) : (rRho l).length = 25 := rhT_len l 24
theorem rPi_len (l : List UInt64) : (rPi l).length = 25 := rpX_len l 5
theorem rChi_len (l : List UInt64) : (rChi l).length = 25 := rcX_len l 5
theorem rIota_len (l : List UInt64) (i : Nat) : (rIota l i).length = l.length := riA_len l i 7
theorem rF_len (l : List UInt64) (h : l.length = 25) : (rF l).length = 25 := rfA_len l h 24
/-! ### Lane by lane -/
def fsA (s : List UInt64) : Nat → List UInt64
  | 0 => s
  | k + 1 => (fsA s k).set k ((fsA s k).getD k 0 ^^^ (thC s 5).getD ((k % 5 + 4) % 5) 0 ^^^ turnR ((thC s 5).getD ((k % 5 + 1) % 5) 0) 1)
theorem fsA_len (s : List UInt64) : ∀ k, (fsA s k).length = s.length
  | 0 => rfl
  | k + 1 => by rw [fsA, List.length_set, fsA_len s k]
def fsP (s : List UInt64) : Nat → List UInt64
  | 0 => (List.replicate 25 0).set 0 (s.getD 0 0)
  | t + 1 => (fsP s t).set ((rhXY t).2 + 5 * ((2 * (rhXY t).1 + 3 * (rhXY t).2) % 5)) (turnR (s.getD ((rhXY t).1 + 5 * (rhXY t).2) 0) ((t + 1) * (t + 2) / 2 % 64))
theorem fsP_len (s : List UInt64) : ∀ t, (fsP s t).length = 25
  | 0 => by simp [fsP]
  | t + 1 => by rw [fsP, List.length_set, fsP_len s t]
def fsX (p s : List UInt64) : Nat → List UInt64
  | 0 => s
  | k + 1 => (fsX p s k).set k (p.getD k 0 ^^^ (p.getD (k - k % 5 + (k % 5 + 2) % 5) 0 - (p.getD (k - k % 5 + (k % 5 + 2) % 5) 0 &&& p.getD (k - k % 5 + (k % 5 + 1) % 5) 0)))
theorem fsX_len (p s : List UInt64) : ∀ k, (fsX p s k).length = s.length
  | 0 => rfl
  | k + 1 => by rw [fsX, List.length_set, fsX_len p s k]
def fr3 (s : List UInt64) : List UInt64 := fsX (fsP (fsA s 25) 24) (fsA s 25) 25
theorem fr3_len (s : List UInt64) : (fr3 s).length = s.length := by rw [fr3, fsX_len, fsA_len]
def fastA (l : List UInt64) : Nat → List UInt64
  | 0 => l
  | i + 1 => (fr3 (fastA l i)).set 0 ((fr3 (fastA l i)).getD 0 0 ^^^ consts.getD i 0)
theorem fastA_len (l : List UInt64) : ∀ i, (fastA l i).length = l.length
  | 0 => rfl
  | i + 1 => by rw [fastA, List.length_set, fr3_len, fastA_len l i]
def fast (l : List UInt64) : List UInt64 := fastA l 24
theorem fast_len (l : List UInt64) : (fast l).length = l.length := fastA_len l 24
end Go.Rx
