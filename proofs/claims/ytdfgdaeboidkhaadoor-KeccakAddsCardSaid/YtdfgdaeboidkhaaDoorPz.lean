/- Rounds at whatever number; laws that need no reference. -/
import Derived.Test.YtdfgdaeboidkhaaDoorPe
namespace Go.Rx
def iotaZ (l : List UInt64) (k : Int) : List UInt64 := if 0 ≤ k ∧ k < 24 then iota l k.toNat else l
def kroundZ (l : List UInt64) (k : Int) : List UInt64 := if 0 ≤ k ∧ k < 24 then kround l k.toNat else l
def rIotaZ (l : List UInt64) (k : Int) : List UInt64 := if 0 ≤ k ∧ k < 24 then rIota l k.toNat else l
def rroundZ (l : List UInt64) (k : Int) : List UInt64 := if 0 ≤ k ∧ k < 24 then rround l k.toNat else l
theorem iotaZ_len (l : List UInt64) (k : Int) : (iotaZ l k).length = l.length := by unfold iotaZ; split <;> simp [iota_len]
theorem kroundZ_len (l : List UInt64) (k : Int) (hl : l.length = 25) : (kroundZ l k).length = 25 := by unfold kroundZ; split <;> simp [kround_len, hl]
theorem rIotaZ_len (l : List UInt64) (k : Int) : (rIotaZ l k).length = l.length := by unfold rIotaZ; split <;> simp [rIota_len]
theorem rroundZ_len (l : List UInt64) (k : Int) (hl : l.length = 25) : (rroundZ l k).length = 25 := by unfold rroundZ; split <;> simp [rround_len, hl]
theorem iotaZ_eq (l : List UInt64) (k : Int) (hl : l.length = 25) : iotaZ l k = rIotaZ l k := by
  unfold iotaZ rIotaZ; split
  · rename_i h; exact iota_eq l hl k.toNat (by omega)
  · rfl
theorem roundZ_eq (l : List UInt64) (k : Int) (hl : l.length = 25) : kroundZ l k = rroundZ l k := by
  unfold kroundZ rroundZ; split
  · rename_i h; exact kround_eq l hl k.toNat (by omega)
  · rfl
def kmany (l : List UInt64) (f : Nat) : Nat → List UInt64
  | 0 => l
  | i + 1 => kroundZ (kmany l f i) ((f + i : Nat) : Int)
def rmany (l : List UInt64) (f : Nat) : Nat → List UInt64
  | 0 => l
  | i + 1 => rroundZ (rmany l f i) ((f + i : Nat) : Int)
theorem kmany_len (l : List UInt64) (hl : l.length = 25) (f : Nat) : ∀ i, (kmany l f i).length = 25
  | 0 => hl
  | i + 1 => kroundZ_len _ _ (kmany_len l hl f i)
theorem rmany_len (l : List UInt64) (hl : l.length = 25) (f : Nat) : ∀ i, (rmany l f i).length = 25
  | 0 => hl
  | i + 1 => rroundZ_len _ _ (rmany_len l hl f i)
theorem many_eq (l : List UInt64) (hl : l.length = 25) (f : Nat) : ∀ i, kmany l f i = rmany l f i
  | 0 => rfl
  | i + 1 => by rw [kmany, rmany, many_eq l hl f i, roundZ_eq _ _ (rmany_len l hl f i)]
end Go.Rx
