/- Sums, layers of butterflies, and the ring of pairs: over any commutative ring. No program and no memory here. -/
namespace Go.Rx.Na

section
abbrev R := Fin 3329
theorem pwZ (a : R) : a ^ 0 = 1 := rfl
theorem pwS (a : R) (n : Nat) : a ^ (n + 1) = a ^ n * a := rfl
theorem pwA (a : R) (m n : Nat) : a ^ (m + n) = a ^ m * a ^ n := by grind

def sm (f : Nat → R) : Nat → R
  | 0 => 0
  | n + 1 => sm f n + f n
theorem sm_congr {f g : Nat → R} : ∀ n, (∀ i, i < n → f i = g i) → sm f n = sm g n
  | 0, _ => rfl
  | n + 1, h => by rw [sm, sm, sm_congr n (fun i hi => h i (by omega)), h n (by omega)]
theorem sm_add (f g : Nat → R) : ∀ n, sm (fun i => f i + g i) n = sm f n + sm g n
  | 0 => by simp only [sm]; grind
  | n + 1 => by simp only [sm]; rw [sm_add f g n]; grind
theorem sm_mul (c : R) (f : Nat → R) : ∀ n, sm (fun i => c * f i) n = c * sm f n
  | 0 => by simp only [sm]; grind
  | n + 1 => by simp only [sm]; rw [sm_mul c f n]; grind
theorem sm_zero : ∀ n, sm (fun _ => (0 : R)) n = 0
  | 0 => rfl
  | n + 1 => by simp only [sm]; rw [sm_zero n]; grind
theorem sm_left (f : Nat → R) : ∀ n, sm f (n + 1) = f 0 + sm (fun i => f (i + 1)) n
  | 0 => by simp only [sm]; grind
  | n + 1 => by rw [sm, sm_left f n, sm]; grind
theorem sm_pair (f : Nat → R) : ∀ n, sm f (2 * n) = sm (fun q => f (2 * q) + f (2 * q + 1)) n
  | 0 => rfl
  | n + 1 => by
    rw [show 2 * (n + 1) = 2 * n + 1 + 1 by omega, sm, sm, sm_pair f n, sm]; grind
theorem sm_one (f : Nat → R) (k : Nat) : ∀ n, (∀ i, i < n → i ≠ k → f i = 0) → sm f n = if k < n then f k else 0
  | 0, _ => by rw [if_neg (by omega)]; rfl
  | n + 1, h => by
    rw [sm, sm_one f k n (fun i hi hk => h i (by omega) hk)]
    by_cases e : n = k
    · subst e; rw [if_neg (by omega), if_pos (by omega)]; grind
    · rw [h n (by omega) e]
      by_cases hk : k < n
      · rw [if_pos hk, if_pos (by omega)]; grind
      · rw [if_neg hk, if_neg (by omega)]; grind
theorem sm_swap (f : Nat → Nat → R) (m : Nat) : ∀ n, sm (fun i => sm (fun j => f i j) m) n = sm (fun j => sm (fun i => f i j) n) m
  | 0 => by simp only [sm]; exact (sm_zero m).symm
  | n + 1 => by simp only [sm]; rw [sm_swap f m n, sm_add]

/-! ### Layers -/
theorem dm_facts (L j : Nat) (hL : 0 < L) : (j % (2 * L) < L → (j + L) / (2 * L) = j / (2 * L) ∧ (j + L) % (2 * L) = j % (2 * L) + L) ∧ (¬ j % (2 * L) < L → L ≤ j ∧ (j - L) / (2 * L) = j / (2 * L) ∧ (j - L) % (2 * L) = j % (2 * L) - L) := by
  have h1 := Nat.div_add_mod j (2 * L)
  have h2 := Nat.mod_lt j (show 0 < 2 * L by omega)
  refine ⟨fun h => ?_, fun h => ?_⟩
  · have e : j + L = (j % (2 * L) + L) + 2 * L * (j / (2 * L)) := by omega
    refine ⟨?_, ?_⟩
    · rw [e, Nat.add_mul_div_left _ _ (by omega), Nat.div_eq_of_lt (by omega), Nat.zero_add]
    · conv => lhs; rw [e, Nat.add_mul_mod_self_left, Nat.mod_eq_of_lt (by omega)]
  · have e : j - L = (j % (2 * L) - L) + 2 * L * (j / (2 * L)) := by omega
    refine ⟨by omega, ?_, ?_⟩
    · rw [e, Nat.add_mul_div_left _ _ (by omega), Nat.div_eq_of_lt (by omega), Nat.zero_add]
    · conv => lhs; rw [e, Nat.add_mul_mod_self_left, Nat.mod_eq_of_lt (by omega)]
/-- A layer of the way there, and one of the way back. -/
def fl (z : Nat → R) (L : Nat) (v : Nat → R) (j : Nat) : R := if j % (2 * L) < L then v j + z (j / (2 * L)) * v (j + L) else v (j - L) - z (j / (2 * L)) * v j
def il (y : Nat → R) (L : Nat) (v : Nat → R) (j : Nat) : R := if j % (2 * L) < L then v j + v (j + L) else y (j / (2 * L)) * (v j - v (j - L))
theorem il_fl (y z : Nat → R) (L : Nat) (hL : 0 < L) (v : Nat → R) (j : Nat) (h : y (j / (2 * L)) * z (j / (2 * L)) = -1) : il y L (fl z L v) j = v j + v j := by
  obtain ⟨h1, h2⟩ := dm_facts L j hL
  unfold il
  by_cases hc : j % (2 * L) < L
  · obtain ⟨e1, e2⟩ := h1 hc
    rw [if_pos hc]; unfold fl
    rw [if_pos hc, e1, e2, if_neg (by omega), Nat.add_sub_cancel]; grind
  · obtain ⟨e0, e1, e2⟩ := h2 hc
    have hlt := Nat.mod_lt j (show 0 < 2 * L by omega)
    rw [if_neg hc]; unfold fl
    rw [if_neg hc, e1, e2, if_pos (by omega), show j - L + L = j by omega]; grind
theorem fl_il (y z : Nat → R) (L : Nat) (hL : 0 < L) (v : Nat → R) (j : Nat) (h : y (j / (2 * L)) * z (j / (2 * L)) = -1) : fl z L (il y L v) j = v j + v j := by
  obtain ⟨h1, h2⟩ := dm_facts L j hL
  unfold fl
  by_cases hc : j % (2 * L) < L
  · obtain ⟨e1, e2⟩ := h1 hc
    rw [if_pos hc]; unfold il
    rw [if_pos hc, e1, e2, if_neg (by omega), Nat.add_sub_cancel]; grind
  · obtain ⟨e0, e1, e2⟩ := h2 hc
    have hlt := Nat.mod_lt j (show 0 < 2 * L by omega)
    rw [if_neg hc]; unfold il
    rw [if_neg hc, e1, e2, if_pos (by omega), show j - L + L = j by omega]; grind
/-- A layer only looks at places below 256, where 2 L divides 256. -/
theorem fl_congr (z z' : Nat → R) (L n : Nat) (hL : 0 < L) (hn : 2 * L * n = 256) (v v' : Nat → R) (hz : ∀ b, b < n → z b = z' b) (hv : ∀ j, j < 256 → v j = v' j) (j : Nat) (hj : j < 256) : fl z L v j = fl z' L v' j := by
  have hb : j / (2 * L) < n := Nat.div_lt_of_lt_mul (by omega)
  have h1 := Nat.div_add_mod j (2 * L)
  have h2 : 2 * L * (j / (2 * L)) + 2 * L ≤ 256 := by rw [← hn, ← Nat.mul_succ]; exact Nat.mul_le_mul_left _ hb
  unfold fl
  rw [hz _ hb]
  by_cases hc : j % (2 * L) < L
  · rw [if_pos hc, if_pos hc, hv j hj, hv (j + L) (by omega)]
  · rw [if_neg hc, if_neg hc, hv j hj, hv (j - L) (by omega)]
theorem il_congr (z z' : Nat → R) (L n : Nat) (hL : 0 < L) (hn : 2 * L * n = 256) (v v' : Nat → R) (hz : ∀ b, b < n → z b = z' b) (hv : ∀ j, j < 256 → v j = v' j) (j : Nat) (hj : j < 256) : il z L v j = il z' L v' j := by
  have hb : j / (2 * L) < n := Nat.div_lt_of_lt_mul (by omega)
  have h1 := Nat.div_add_mod j (2 * L)
  have h2 : 2 * L * (j / (2 * L)) + 2 * L ≤ 256 := by rw [← hn, ← Nat.mul_succ]; exact Nat.mul_le_mul_left _ hb
  unfold il
  rw [hz _ hb]
  by_cases hc : j % (2 * L) < L
  · rw [if_pos hc, if_pos hc, hv j hj, hv (j + L) (by omega)]
  · rw [if_neg hc, if_neg hc, hv j hj, hv (j - L) (by omega)]
theorem fl_add (z : Nat → R) (L : Nat) (v v' : Nat → R) (j : Nat) : fl z L (fun i => v i + v' i) j = fl z L v j + fl z L v' j := by unfold fl; split <;> grind
theorem il_scale (z : Nat → R) (c : R) (L : Nat) (v : Nat → R) (j : Nat) : il z L (fun i => c * v i) j = c * il z L v j := by unfold il; split <;> grind
theorem fl_scale (z : Nat → R) (c : R) (L : Nat) (v : Nat → R) (j : Nat) : fl z L (fun i => c * v i) j = c * fl z L v j := by unfold fl; split <;> grind

/-- Block b of a layer whose blocks have n parts of p: the rest by X^L = w. -/
def ev (p : Nat → R) (L n : Nat) (w : R) (m : Nat) : R := sm (fun q => p (m + q * L) * w ^ q) n
theorem pow_two_mul (z : R) (q : Nat) : z ^ (2 * q) = (z * z) ^ q := by
  induction q with
  | zero => grind
  | succ q ih => rw [show 2 * (q + 1) = 2 * q + 1 + 1 by omega, pwS, pwS, pwS, ih]; grind
theorem ev_step (p : Nat → R) (L n : Nat) (z w : R) (m : Nat) (hw : z * z = w) : ev p (2 * L) n w m + z * ev p (2 * L) n w (m + L) = ev p L (2 * n) z m := by
  unfold ev
  rw [sm_pair, ← sm_mul, ← sm_add]
  refine sm_congr n fun q _ => ?_
  rw [pow_two_mul, pwS, pow_two_mul, hw, show m + q * (2 * L) = m + 2 * q * L by rw [Nat.mul_comm 2 L, ← Nat.mul_assoc, Nat.mul_right_comm, Nat.mul_comm q 2], show m + L + q * (2 * L) = m + (2 * q + 1) * L by rw [Nat.add_mul, Nat.one_mul, Nat.mul_comm 2 L, ← Nat.mul_assoc, Nat.mul_right_comm q L 2, Nat.mul_comm q 2]; omega]
  grind
theorem ev_step' (p : Nat → R) (L n : Nat) (z w : R) (m : Nat) (hw : z * z = w) : ev p (2 * L) n w m - z * ev p (2 * L) n w (m + L) = ev p L (2 * n) (-z) m := by
  have h := ev_step p L n (-z) w m (by grind)
  grind
/-- One layer carries the invariant on. -/
theorem layer_step (p v : Nat → R) (L n : Nat) (hL : 0 < L) (z w : Nat → R) (w' : Nat → R) (h : ∀ b, b < n → ∀ m, m < 2 * L → v (b * (2 * L) + m) = ev p (2 * L) n (w b) m) (hz : ∀ b, b < n → z b * z b = w b) (h0 : ∀ b, b < n → w' (2 * b) = z b) (h1 : ∀ b, b < n → w' (2 * b + 1) = - z b) :
    ∀ b, b < 2 * n → ∀ m, m < L → fl z L v (b * L + m) = ev p L (2 * n) (w' b) m := by
  intro b hb m hm
  have hd : b = 2 * (b / 2) + b % 2 := by omega
  have hb2 : b / 2 < n := by omega
  have e0 : ∀ r, r < 2 * L → (b / 2 * (2 * L) + r) / (2 * L) = b / 2 ∧ (b / 2 * (2 * L) + r) % (2 * L) = r := fun r hr => by
    rw [Nat.mul_comm (b / 2), Nat.add_comm]
    exact ⟨by rw [Nat.add_mul_div_left _ _ (by omega), Nat.div_eq_of_lt hr, Nat.zero_add], by rw [Nat.add_mul_mod_self_left, Nat.mod_eq_of_lt hr]⟩
  rcases Nat.mod_two_eq_zero_or_one b with hm2 | hm2
  · have hbe : b = 2 * (b / 2) := by omega
    have ej : b * L + m = b / 2 * (2 * L) + m := by
      conv => lhs; rw [hbe, Nat.mul_right_comm]
      rw [show 2 * L * (b / 2) = b / 2 * (2 * L) from Nat.mul_comm _ _]
    obtain ⟨g1, g2⟩ := e0 m (by omega)
    rw [ej]; unfold fl
    rw [g1, g2, if_pos hm, h _ hb2 m (by omega), Nat.add_assoc, h _ hb2 (m + L) (by omega), ev_step _ _ _ _ _ _ (hz _ hb2)]
    conv => rhs; rw [hbe, h0 _ hb2]
  · have hbe : b = 2 * (b / 2) + 1 := by omega
    have ej : b * L + m = b / 2 * (2 * L) + (m + L) := by
      conv => lhs; rw [hbe, Nat.add_mul, Nat.one_mul, Nat.mul_right_comm]
      rw [show 2 * L * (b / 2) = b / 2 * (2 * L) from Nat.mul_comm _ _]; omega
    obtain ⟨g1, g2⟩ := e0 (m + L) (by omega)
    rw [ej]; unfold fl
    rw [g1, g2, if_neg (by omega), h _ hb2 (m + L) (by omega), show b / 2 * (2 * L) + (m + L) - L = b / 2 * (2 * L) + m by omega, h _ hb2 m (by omega), ev_step' _ _ _ _ _ _ (hz _ hb2)]
    conv => rhs; rw [hbe, h1 _ hb2]

/-! ### Pairs: F[Y] by Y^2 = z -/
/-- What p is there: the even and the odd places. -/
def ev2 (p : Nat → R) (z : R) (m : Nat) : R := sm (fun q => p (m + 2 * q) * z ^ q) 128
/-- Y^n: its even and its odd part. -/
def yp (z : R) (n m : Nat) : R := if n % 2 = m then z ^ (n / 2) else 0
theorem ev2_eq (p : Nat → R) (z : R) (m : Nat) : ev p 2 128 z m = ev2 p z m := by unfold ev ev2; exact sm_congr _ fun q _ => by rw [Nat.mul_comm q 2]
/-- Adding c at place n adds c Y^n. -/
theorem ev2_put (p p' : Nat → R) (z c : R) (n m : Nat) (hn : n < 256) (hm : m < 2) (h : ∀ j, j < 256 → p' j = if j = n then p j + c else p j) : ev2 p' z m = ev2 p z m + c * yp z n m := by
  have e : ev2 p' z m = ev2 p z m + sm (fun q => (if m + 2 * q = n then c else 0) * z ^ q) 128 := by
    unfold ev2
    rw [← sm_add]
    refine sm_congr _ fun q hq => ?_
    rw [h _ (by omega)]
    split <;> grind
  rw [e, sm_one _ (n / 2) 128 (fun i _ hne => by rw [if_neg (by omega)]; grind), if_pos (by omega)]
  unfold yp
  by_cases hc : n % 2 = m
  · rw [if_pos hc, if_pos (by omega)]
  · rw [if_neg hc, if_neg (by omega)]; grind
/-- Y^i Y^j = Y^(i+j); behind 256 with the other sign, where z^128 = -1. -/
theorem yp_mul0 (z : R) (i j : Nat) : yp z (i + j) 0 = yp z i 0 * yp z j 0 + z * (yp z i 1 * yp z j 1) := by
  unfold yp
  rcases Nat.mod_two_eq_zero_or_one i with h1 | h1 <;> rcases Nat.mod_two_eq_zero_or_one j with h2 | h2
  · rw [if_pos (by omega), if_pos h1, if_pos h2, if_neg (by omega), show (i + j) / 2 = i / 2 + j / 2 by omega, pwA]; grind
  · rw [if_neg (by omega), if_pos h1, if_neg (by omega), if_neg (by omega)]; grind
  · rw [if_neg (by omega), if_neg (by omega), if_pos h2, if_neg (show ¬ j % 2 = 1 by omega)]; grind
  · rw [if_pos (by omega), if_neg (by omega), if_pos h1, if_pos h2, show (i + j) / 2 = i / 2 + j / 2 + 1 by omega, pwS, pwA]; grind
theorem yp_mul1 (z : R) (i j : Nat) : yp z (i + j) 1 = yp z i 0 * yp z j 1 + yp z i 1 * yp z j 0 := by
  unfold yp
  rcases Nat.mod_two_eq_zero_or_one i with h1 | h1 <;> rcases Nat.mod_two_eq_zero_or_one j with h2 | h2
  · rw [if_neg (by omega), if_neg (show ¬ j % 2 = 1 by omega), if_neg (show ¬ i % 2 = 1 by omega)]; grind
  · rw [if_pos (by omega), if_pos h1, if_pos h2, if_neg (show ¬ i % 2 = 1 by omega), show (i + j) / 2 = i / 2 + j / 2 by omega, pwA]; grind
  · rw [if_pos (by omega), if_neg (show ¬ i % 2 = 0 by omega), if_pos h1, if_pos h2, show (i + j) / 2 = i / 2 + j / 2 by omega, pwA]; grind
  · rw [if_neg (by omega), if_neg (show ¬ i % 2 = 0 by omega), if_neg (show ¬ j % 2 = 0 by omega)]; grind
theorem yp_wrap (z : R) (hz : z ^ 128 = -1) (n m : Nat) (hn : 256 ≤ n) : yp z n m = - yp z (n - 256) m := by
  unfold yp
  by_cases h : n % 2 = m
  · rw [if_pos h, if_pos (by omega), show n / 2 = (n - 256) / 2 + 128 by omega, pwA, hz]; grind
  · rw [if_neg h, if_neg (by omega)]; grind
/-- What p is, as a sum of its terms. -/
theorem ev2_terms (p : Nat → R) (z : R) (m : Nat) (hm : m < 2) : ev2 p z m = sm (fun n => p n * yp z n m) 256 := by
  rw [show 256 = 2 * 128 from rfl, sm_pair]
  unfold ev2
  refine sm_congr _ fun q _ => ?_
  unfold yp
  match m, hm with
  | 0, _ => rw [if_pos (by omega), if_neg (by omega), show 2 * q / 2 = q by omega, Nat.zero_add]; grind
  | 1, _ => rw [if_neg (by omega), if_pos (by omega), show (2 * q + 1) / 2 = q by omega, Nat.add_comm 1]; grind
end
end Go.Rx.Na
