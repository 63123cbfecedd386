/- Plain laws of layer 11. No program and no memory here. -/
import Derived.Test.YtdiddkcoihpnhaaDoorNk
set_option maxRecDepth 100000
set_option exponentiation.threshold 4000
namespace Go.Rx
open Go.Rx.Na

/-! ### There: what a polynomial is by its factors -/
def rootN (i : Nat) : Nat := rpow 17 (2 * turned ((i : Nat) : Int) + 1)
def zr (i : Nat) : F := fi ((rootN i : Nat) : Int)
def wF : Nat → Nat → F
  | 0, _ => -1
  | i + 1, b => if b % 2 = 0 then zF i (b / 2) else - zF i (b / 2)
theorem wF_sq : ∀ i, i < 7 → ∀ b, b < nbF i → zF i b * zF i b = wF i b := by decide +kernel
theorem lenF_half : ∀ i, i < 7 → 2 * lenF (i + 1) = lenF i := by decide
theorem roots : ∀ b, b < 128 → wF 7 b = zr b := by decide +kernel
theorem fwL_inv (p : List Int) (hp : p.length = 256) : ∀ i, i ≤ 7 → ∀ b, b < nbF i → ∀ m, m < 2 * lenF i → fv (fwL p i) (b * (2 * lenF i) + m) = ev (fv p) (2 * lenF i) (nbF i) (wF i b) m := by
  intro i
  induction i with
  | zero =>
    intro _ b hb m hm
    simp only [nbF, lenF] at hb hm ⊢
    rw [show b = 0 by omega, Nat.zero_mul, Nat.zero_add, fwL, cl_fv p hp m (by omega)]
    simp only [ev, sm]
    rw [Nat.zero_mul, Nat.add_zero, pwZ]; grind
  | succ i ih =>
    intro hi b hb m hm
    obtain ⟨f1, f2, _, _, _, _⟩ := F_facts i (by omega)
    have hh := lenF_half i (by omega)
    have hj : b * lenF i + m < 256 := by
      have h1 := Nat.mul_le_mul_right (lenF i) (show b + 1 ≤ 2 * nbF i from hb)
      rw [Nat.add_mul, Nat.one_mul, Nat.mul_right_comm] at h1; omega
    rw [hh, fwL_fv p hp i (by omega) _ hj]
    exact layer_step (fv p) (fv (fwL p i)) (lenF i) (nbF i) f2 (zF i) (wF i) (wF (i + 1)) (ih (by omega)) (wF_sq i (by omega)) (fun b _ => by simp only [wF]; rw [if_pos (by omega), show 2 * b / 2 = b by omega]) (fun b _ => by simp only [wF]; rw [if_neg (by omega), show (2 * b + 1) / 2 = b by omega]) b hb m (by omega)
theorem fwd_fv (p : List Int) (hp : p.length = 256) (b m : Nat) (hb : b < 128) (hm : m < 2) : fv (fwd p) (2 * b + m) = ev2 (fv p) (zr b) m := by
  have h := fwL_inv p hp 7 (Nat.le_refl _) b hb m hm
  rw [roots b hb] at h
  rw [← ev2_eq, Nat.mul_comm 2 b]; exact h
theorem fwd_red (p : List Int) (hp : p.length = 256) : Red (fwd p) := fwL_red p hp 7
def hzA (l : List Int) (z m : Nat) : Nat → Nat
  | 0 => 0
  | t + 1 => (hzA l z m t * z + tn l (2 * (127 - t) + m)) % 3329
theorem hzA_lt (l : List Int) (z m : Nat) : ∀ t, hzA l z m t < 3329
  | 0 => (by decide : 0 < 3329)
  | t + 1 => Nat.mod_lt _ (by decide)
theorem hz_ev {l : List Int} (hl : Red l) (z m : Nat) : ∀ t, t ≤ 128 → fi ((hzA l z m t : Nat) : Int) = sm (fun q => fv l (2 * (128 - t + q) + m) * fi (z : Int) ^ q) t
  | 0, _ => rfl
  | t + 1, h => by
    rw [hzA, fi_modn, fi_addn, fi_muln, hl.fv, hz_ev hl z m t (by omega), sm_left]
    rw [sm_congr (f := fun i => fv l (2 * (128 - (t + 1) + (i + 1)) + m) * fi (z : Int) ^ (i + 1)) (g := fun q => fi (z : Int) * (fv l (2 * (128 - t + q) + m) * fi (z : Int) ^ q)) t (fun q _ => by rw [show 128 - (t + 1) + (q + 1) = 128 - t + q by omega, pwS]; grind)]
    rw [sm_mul, pwZ, show 128 - (t + 1) + 0 = 127 - t by omega]
    grind
def rfwA (p : List Int) : Nat → List Int
  | 0 => List.replicate 256 0
  | i + 1 => ((rfwA p i).set (2 * i) ((hzA p (rootN i) 0 128 : Nat) : Int)).set (2 * i + 1) ((hzA p (rootN i) 1 128 : Nat) : Int)
theorem rfw_red (p : List Int) : ∀ i, Red (rfwA p i)
  | 0 => red_rep
  | i + 1 => ((rfw_red p i).set _ (hzA_lt _ _ _ _)).set _ (hzA_lt _ _ _ _)
theorem rfw_fv {p : List Int} (hp : Red p) : ∀ n, n ≤ 128 → ∀ b m, m < 2 → b < n → fv (rfwA p n) (2 * b + m) = ev2 (fv p) (zr b) m := by
  intro n
  induction n with
  | zero => intro _ b m _ hb; omega
  | succ n ih =>
    intro hn b m hm hb
    rw [rfwA, fv_set (by rw [List.length_set, (rfw_red p n).len]) (by omega), fv_set (rfw_red p n).len (by omega)]
    have hv : ∀ m, fi ((hzA p (rootN n) m 128 : Nat) : Int) = ev2 (fv p) (zr n) m := fun m => by
      rw [hz_ev hp _ m 128 (Nat.le_refl _)]
      exact sm_congr 128 fun q _ => by rw [show 2 * (128 - 128 + q) + m = m + 2 * q by omega]; rfl
    by_cases e : b = n
    · subst e
      match m, hm with
      | 0, _ => rw [if_neg (by omega), if_pos (by omega), hv]
      | 1, _ => rw [if_pos rfl, hv]
    · rw [if_neg (by omega), if_neg (by omega)]; exact ih (by omega) b m hm (by omega)
theorem fwd_eq (p : List Int) (hp : p.length = 256) : fwd p = rfwA (cl p) 128 :=
  red_ext (fwd_red p hp) (rfw_red _ _) fun j hj => by
    have h1 := fwd_fv p hp (j / 2) (j % 2) (by omega) (by omega)
    have h2 := rfw_fv (cl_red p hp) 128 (Nat.le_refl _) (j / 2) (j % 2) (by omega) (by omega)
    rw [show 2 * (j / 2) + j % 2 = j by omega] at h1 h2
    rw [h1, h2]
    exact sm_congr 128 fun q _ => by rw [cl_fv p hp _ (by omega)]

/-! ### And back -/
theorem len_turn : ∀ i, i < 7 → lenI i = lenF (6 - i) ∧ nbI i = nbF (6 - i) := by decide
theorem zz_turn : ∀ i, i < 7 → ∀ b, b < nbI i → zI i b * zF (6 - i) b = -1 := by decide +kernel
theorem div_lt_nb (L n j : Nat) (h : 2 * L * n = 256) (hj : j < 256) : j / (2 * L) < n := Nat.div_lt_of_lt_mul (by omega)
theorem inv_fwd_aux (p : List Int) (hp : p.length = 256) : ∀ i, i ≤ 7 → ∀ j, j < 256 → fv (ivL (fwd p) i) j = (2 : F) ^ i * fv (fwL p (7 - i)) j := by
  intro i
  induction i with
  | zero => intro _ j hj; rw [ivL, cl_fv _ (fwd_red p hp).len j hj, pwZ]; show fv (fwL p 7) j = _; grind
  | succ i ih =>
    intro hi j hj
    obtain ⟨f1, f2, _, _, _, _⟩ := I_facts i (by omega)
    obtain ⟨t1, t2⟩ := len_turn i (by omega)
    rw [ivL_fv _ (fwd_red p hp).len i (by omega) j hj]
    rw [il_congr (zI i) (zI i) (lenI i) (nbI i) f2 f1 _ (fun j => (2 : F) ^ i * fl (zF (6 - i)) (lenI i) (fv (fwL p (6 - i))) j) (fun _ _ => rfl) (fun j hj => by
      rw [ih (by omega) j hj, show 7 - i = (6 - i) + 1 by omega, fwL_fv p hp (6 - i) (by omega) j hj, t1]) j hj]
    rw [il_scale, il_fl _ _ _ f2 _ j (zz_turn i (by omega) _ (div_lt_nb _ _ j f1 hj)), pwS, show 7 - (i + 1) = 6 - i by omega]; grind
theorem c128 : (2 : F) ^ 7 * fi 3303 = 1 := by decide +kernel
theorem inv_red (p : List Int) (hp : p.length = 256) : Red (inv p) := sc_red _ (by rw [ivL_len, hp])
theorem inv_fwd (p : List Int) (hp : p.length = 256) : inv (fwd p) = cl p :=
  red_ext (inv_red _ (fwd_red p hp).len) (cl_red p hp) fun j hj => by
    rw [inv, sc_fv _ (by rw [ivL_len, (fwd_red p hp).len]) j hj, inv_fwd_aux p hp 7 (Nat.le_refl _) j hj]
    show (2 : F) ^ 7 * fv (cl p) j * fi 3303 = _
    have := c128; grind
theorem fwd_inv_aux (p : List Int) (hp : p.length = 256) : ∀ i, i ≤ 7 → ∀ j, j < 256 → fv (fwL (inv p) i) j = fi 3303 * (2 : F) ^ i * fv (ivL p (7 - i)) j := by
  intro i
  induction i with
  | zero => intro _ j hj; rw [fwL, cl_fv _ (inv_red p hp).len j hj, pwZ, inv, sc_fv _ (by rw [ivL_len, hp]) j hj]; show fv (ivL p 7) j * _ = _; grind
  | succ i ih =>
    intro hi j hj
    obtain ⟨f1, f2, _, _, _, _⟩ := F_facts i (by omega)
    obtain ⟨t1, t2⟩ := len_turn (6 - i) (by omega)
    rw [show 6 - (6 - i) = i by omega] at t1 t2
    rw [fwL_fv _ (inv_red p hp).len i (by omega) j hj]
    rw [fl_congr (zF i) (zF i) (lenF i) (nbF i) f2 f1 _ (fun j => fi 3303 * (2 : F) ^ i * il (zI (6 - i)) (lenF i) (fv (ivL p (6 - i))) j) (fun _ _ => rfl) (fun j hj => by
      rw [ih (by omega) j hj, show 7 - i = (6 - i) + 1 by omega, ivL_fv p hp (6 - i) (by omega) j hj, t1]) j hj]
    have hz := zz_turn (6 - i) (by omega) (j / (2 * lenF i)) (by rw [t2]; exact div_lt_nb _ _ j f1 hj)
    rw [show 6 - (6 - i) = i by omega] at hz
    rw [fl_scale, fl_il _ _ _ f2 _ j hz, pwS, show 7 - (i + 1) = 6 - i by omega]; grind
theorem fwd_inv (p : List Int) (hp : p.length = 256) : fwd (inv p) = cl p :=
  red_ext (fwd_red _ (inv_red p hp).len) (cl_red p hp) fun j hj => by
    rw [fwd, fwd_inv_aux p hp 7 (Nat.le_refl _) j hj]
    show fi 3303 * (2 : F) ^ 7 * fv (cl p) j = _
    have := c128; grind
theorem inv_cl (p : List Int) (hp : p.length = 256) : inv (cl p) = inv p := by
  have e : ∀ i, ivL (cl p) i = ivL p i := by
    intro i
    induction i with
    | zero => rw [ivL, ivL, cl_of_red (cl_red p hp)]
    | succ i ih => rw [ivL, ivL, ih]
  rw [inv, inv, e]

/-- w(i): the root's inverse. -/
def wN (i : Nat) : Nat := rpow ((rootN i : Nat) : Int) 255
def wi (i : Nat) : F := fi ((wN i : Nat) : Int)
def zt : List Nat := [17, 3312, 2761, 568, 583, 2746, 2649, 680, 1637, 1692, 723, 2606, 2288, 1041, 1100, 2229, 1409, 1920, 2662, 667, 3281, 48, 233, 3096, 756, 2573, 2156, 1173, 3015, 314, 3050, 279, 1703, 1626, 1651, 1678, 2789, 540, 1789, 1540, 1847, 1482, 952, 2377, 1461, 1868, 2687, 642, 939, 2390, 2308, 1021, 2437, 892, 2388, 941, 733, 2596, 2337, 992, 268, 3061, 641, 2688, 1584, 1745, 2298, 1031, 2037, 1292, 3220, 109, 375, 2954, 2549, 780, 2090, 1239, 1645, 1684, 1063, 2266, 319, 3010, 2773, 556, 757, 2572, 2099, 1230, 561, 2768, 2466, 863, 2594, 735, 2804, 525, 1092, 2237, 403, 2926, 1026, 2303, 1143, 2186, 2150, 1179, 2775, 554, 886, 2443, 1722, 1607, 1212, 2117, 1874, 1455, 1029, 2300, 2110, 1219, 2935, 394, 885, 2444, 2154, 1175]
theorem zt_roots : ∀ i, i < 128 → rootN i = zt.getD i 0 := by decide +kernel
theorem zt_nodup : zt.Nodup := by decide +kernel
theorem zt_lt : ∀ i, i < 128 → zt.getD i 0 < 3329 := by decide +kernel
theorem zt_inj (i b : Nat) (hi : i < 128) (hb : b < 128) (h : zt.getD i 0 = zt.getD b 0) : i = b := by
  have h1 : i < zt.length := hi
  have h2 : b < zt.length := hb
  rw [List.getD_eq_getElem?_getD, List.getD_eq_getElem?_getD, List.getElem?_eq_getElem h1, List.getElem?_eq_getElem h2] at h
  exact (List.getElem_inj zt_nodup).1 h
theorem wz_one : ∀ i, i < 128 → wN i * rootN i % 3329 = 1 := by decide +kernel
theorem rr_m : ∀ i, i < 128 → rootN i ^ 128 % 3329 = 3328 ∧ wN i ^ 128 % 3329 = 3328 := by decide +kernel
theorem fi_pow (n k : Nat) : fi (n : Int) ^ k = fi ((n ^ k : Nat) : Int) := by
  induction k with
  | zero => rw [pwZ, Nat.pow_zero]; rfl
  | succ k ih => rw [pwS, ih, Nat.pow_succ, fi_muln]
theorem fi_eq {m n : Nat} (h : m % 3329 = n % 3329) : fi (m : Int) = fi (n : Int) := by rw [← fi_modn, h, fi_modn]
theorem wz (i : Nat) (hi : i < 128) : wi i * zr i = 1 := by
  rw [wi, zr, ← fi_muln, fi_eq (n := 1) (by rw [wz_one i hi])]; rfl
theorem zr128 (i : Nat) (hi : i < 128) : zr i ^ 128 = -1 := by rw [zr, fi_pow, fi_eq (n := 3328) (by rw [(rr_m i hi).1])]; decide
theorem wi128 (i : Nat) (hi : i < 128) : wi i ^ 128 = -1 := by rw [wi, fi_pow, fi_eq (n := 3328) (by rw [(rr_m i hi).2])]; decide
theorem zr_inj (i b : Nat) (hi : i < 128) (hb : b < 128) (h : zr i = zr b) : i = b := by
  rw [zr, zr, zt_roots i hi, zt_roots b hb] at h
  have h3 := zt_lt i hi
  have h4 := zt_lt b hb
  have h5 := fi_inj (x := ((zt.getD i 0 : Nat) : Int)) (y := ((zt.getD b 0 : Nat) : Int)) (by omega) (by omega) h
  exact zt_inj i b hi hb (by omega)
theorem f_inv (x : F) (h : x ≠ 0) : ∃ y : F, y * x = 1 := by
  have hx : x = fi ((x.val : Nat) : Int) := by apply Fin.ext; rw [fi_val, zmod_nat, Nat.mod_eq_of_lt x.isLt]
  have h0 : x.val ≠ 0 := fun e => h (Fin.ext e)
  refine ⟨fi ((x.val ^ 3327 : Nat) : Int), ?_⟩
  have e : fi ((x.val ^ 3327 : Nat) : Int) * fi ((x.val : Nat) : Int) = 1 := by
    rw [← fi_muln, ← Nat.pow_succ, fi_eq (n := 1) (by rw [fermat _ h0 x.isLt])]; rfl
  rw [← hx] at e; exact e
theorem pow_tele (r : F) : ∀ n, (r - 1) * sm (fun j => r ^ j) n = r ^ n - 1
  | 0 => by rw [pwZ]; simp only [sm]; grind
  | n + 1 => by
    have h := pow_tele r n
    rw [sm, pwS]; grind
theorem mul_pow (a b : F) (n : Nat) : (a * b) ^ n = a ^ n * b ^ n := by
  induction n with
  | zero => rw [pwZ, pwZ, pwZ]; grind
  | succ n ih => rw [pwS, pwS, pwS, ih]; grind
theorem sm_ones : ∀ n : Nat, sm (fun j => (1 : F) ^ j) n = fi (n : Int)
  | 0 => rfl
  | n + 1 => by
    have h1 : (1 : F) ^ n = 1 := by
      induction n with
      | zero => rw [pwZ]
      | succ n ih => rw [pwS, ih]; grind
    rw [sm, sm_ones n, fi_addn, h1]; rfl
/-- Orthogonality. -/
theorem orth (i b : Nat) (hi : i < 128) (hb : b < 128) : fi 3303 * sm (fun j => (wi i * zr b) ^ j) 128 = if i = b then 1 else 0 := by
  by_cases e : i = b
  · subst e
    rw [if_pos rfl, wz i hi, sm_ones]; decide +kernel
  · rw [if_neg e]
    have h1 := pow_tele (wi i * zr b) 128
    rw [mul_pow, wi128 i hi, zr128 b hb] at h1
    have hne : wi i * zr b - 1 ≠ 0 := fun h => e (zr_inj i b hi hb (by have := wz i hi; grind))
    obtain ⟨y, hy⟩ := f_inv _ hne
    grind
end Go.Rx
