/- One step of the document's product, case by case. -/
import Derived.Test.YtdiddkcoihpnhaaDoorNw
namespace Go.Rx
theorem rprJ_lt (p q : List Int) (i : Nat) (out : List Int) (j : Nat) (h : i + j < 256) : rprJ p q i out (j + 1) = (rprJ p q i out j).set (i + j) (((tn (rprJ p q i out j) (i + j) + tn p i * tn q j % 3329) % 3329 : Nat) : Int) := by
  rw [rprJ, if_pos h]
theorem rprJ_ge (p q : List Int) (i : Nat) (out : List Int) (j : Nat) (h : ¬ i + j < 256) : rprJ p q i out (j + 1) = (rprJ p q i out j).set (i + j - 256) (((tn (rprJ p q i out j) (i + j - 256) + 3329 - tn p i * tn q j % 3329) % 3329 : Nat) : Int) := by
  rw [rprJ, if_neg h]
end Go.Rx
