/- awake's values of layer 11. No program and no memory here. -/
import Derived.Test.YtdiddkcoihpnhaaDoorNm
set_option maxRecDepth 100000
namespace Go.Rx
open Go.Rx.Na
theorem rpow_lt (a : Int) (n : Nat) : rpow a n < 3329 := by unfold rpow; split; decide; exact rp_lt _ _
theorem rootN_lt (i : Nat) : rootN i < 3329 := rpow_lt _ _
theorem wN_lt (i : Nat) : wN i < 3329 := rpow_lt _ _
def xk (k : Nat) : List Int := (List.replicate 256 0).set k 1
theorem xk_len (k : Nat) : (xk k).length = 256 := by rw [xk, List.length_set, List.length_replicate]
theorem fi_back {l : List Int} (h : Red l) (j v : Nat) (hv : v < 3329) (e : fv l j = fi (v : Int)) : l.getD j 0 = (v : Int) := fi_inj (h.rng j) (by omega) e
theorem ev_one (z : F) (m : Nat) (hm : m < 2) : ev2 (fv (xk 0)) z m = if m = 0 then 1 else 0 := by
  have h := ev2_put (fv (List.replicate 256 0)) (fv (xk 0)) z 1 0 m (by decide) hm (fun j _ => by
    rw [xk, fv_xk 1 0 (by decide) j, fv_rep]; split <;> first | rfl | (show (1 : F) = 0 + 1; decide) | (show fi 1 = 0 + 1; decide))
  rw [h]
  have h0 : ev2 (fv (List.replicate 256 0)) z m = 0 := by
    unfold ev2; rw [sm_congr 128 (g := fun _ => 0) (fun q _ => by rw [fv_rep]; grind), sm_zero]
  rw [h0]; unfold yp
  rcases (show m = 0 ∨ m = 1 by omega) with rfl | rfl
  · rw [if_pos (by decide), if_pos rfl, show 0 / 2 = 0 from rfl, pwZ]; grind
  · rw [if_neg (by decide), if_neg (by decide)]; grind
theorem fwd_one (b m : Nat) (hb : b < 128) (hm : m < 2) : (fwd (xk 0)).getD (2 * b + m) 0 = if m = 0 then 1 else 0 := by
  have h := fwd_fv (xk 0) (xk_len 0) b m hb hm
  rw [ev_one _ m hm] at h
  have e1 : fi ((1 : Nat) : Int) = 1 := rfl
  have e0 : fi ((0 : Nat) : Int) = 0 := rfl
  rcases (show m = 0 ∨ m = 1 by omega) with rfl | rfl
  · rw [if_pos rfl] at h ⊢; exact fi_back (fwd_red _ (xk_len 0)) _ 1 (by decide) (by rw [h, e1])
  · rw [if_neg (by decide)] at h ⊢; exact fi_back (fwd_red _ (xk_len 0)) _ 0 (by decide) (by rw [h, e0])
theorem w_p (i : Nat) (hi : i < 256) : (prd (xk 255) (xk 1)).getD (mvP 1 i) 0 = ((mvV (xk 255) 1 1 i : Nat) : Int) := prd_xk_get (xk 255) (xk_len _) 1 1 (by decide) i hi
theorem w_p0 : (prd (xk 255) (xk 1)).getD 0 0 = 3328 := (w_p 255 (by decide)).trans (by decide +kernel)
theorem w_p1 : (prd (xk 255) (xk 1)).getD 1 0 = 0 := (w_p 0 (by decide)).trans (by decide +kernel)
theorem w_f0 : (fwd (xk 0)).getD 0 0 = 1 := fwd_one 0 0 (by decide) (by decide)
theorem w_f254 : (fwd (xk 0)).getD 254 0 = 1 := fwd_one 127 0 (by decide) (by decide)
theorem w_f1 : (fwd (xk 0)).getD 1 0 = 0 := fwd_one 0 1 (by decide) (by decide)
theorem w_g0 : (inv (fwd (xk 0))).getD 0 0 = 1 := by rw [inv_fwd _ (xk_len 0)]; decide +kernel
theorem w_g2 : (inv (fwd (xk 0))).getD 2 0 = 0 := by rw [inv_fwd _ (xk_len 0)]; decide +kernel
theorem w_h2 : (tms (fwd (xk 0)) (fwd (xk 0))).getD 2 0 = 1 := by
  have f0 : fv (fwd (xk 0)) (2 * 1) = 1 := by unfold fv; rw [show (fwd (xk 0)).getD (2 * 1) 0 = 1 from fwd_one 1 0 (by decide) (by decide)]; rfl
  have f1 : fv (fwd (xk 0)) (2 * 1 + 1) = 0 := by unfold fv; rw [show (fwd (xk 0)).getD (2 * 1 + 1) 0 = 0 from fwd_one 1 1 (by decide) (by decide)]; rfl
  have h := tms_fv (fwd (xk 0)) (fwd (xk 0)) (fwd_red _ (xk_len 0)).len (fwd_red _ (xk_len 0)).len 1 0 (by decide) (by decide)
  rw [f0, f1] at h
  refine fi_back (tms_red _ _) 2 1 (by decide) (h.trans ?_)
  unfold pm; rw [if_pos rfl, show fi ((1 : Nat) : Int) = (1 : F) from rfl]; grind
theorem w_i0 : (pl (xk 0) (xk 0)).getD 0 0 = 2 := by decide +kernel
theorem w_j255 : (mi (xk 1) (xk 255)).getD 255 0 = 3328 := by decide +kernel
theorem w_k1 : (cl (mi (xk 1) (xk 255))).getD 1 0 = 1 := by decide +kernel
end Go.Rx
