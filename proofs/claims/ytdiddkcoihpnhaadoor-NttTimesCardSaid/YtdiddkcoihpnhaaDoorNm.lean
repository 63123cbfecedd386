/- Plain laws of layer 11: the document's way back, products, powers of X. No program and no memory here. -/
import Derived.Test.YtdiddkcoihpnhaaDoorNl
set_option maxRecDepth 100000
set_option linter.unusedVariables false
set_option exponentiation.threshold 4000
namespace Go.Rx
open Go.Rx.Na

/-! ### The document's way back -/
def riK (w : Nat) : Nat → Nat
  | 0 => 3303
  | j + 1 => riK w j * w % 3329
def riJ (p : List Int) (i : Nat) (out : List Int) : Nat → List Int
  | 0 => out
  | j + 1 => ((riJ p i out j).set (2 * j) (((tn (riJ p i out j) (2 * j) + tn p (2 * i) * riK (wN i) j) % 3329 : Nat) : Int)).set (2 * j + 1)
      (((tn ((riJ p i out j).set (2 * j) (((tn (riJ p i out j) (2 * j) + tn p (2 * i) * riK (wN i) j) % 3329 : Nat) : Int)) (2 * j + 1) + tn p (2 * i + 1) * riK (wN i) j) % 3329 : Nat) : Int)
def rivA (p : List Int) : Nat → List Int
  | 0 => List.replicate 256 0
  | i + 1 => riJ p i (rivA p i) 128
theorem riK_lt (w : Nat) : ∀ j, riK w j < 3329
  | 0 => (by decide : 3303 < 3329)
  | j + 1 => Nat.mod_lt _ (by decide)
theorem riK_fi (w : Nat) : ∀ j, fi ((riK w j : Nat) : Int) = fi 3303 * fi (w : Int) ^ j
  | 0 => by rw [pwZ]; simp only [riK]; show fi 3303 = _; grind
  | j + 1 => by rw [riK, fi_modn, fi_muln, riK_fi w j, pwS]; grind
theorem riJ_red (p : List Int) (i : Nat) {out : List Int} (h : Red out) : ∀ j, Red (riJ p i out j)
  | 0 => h
  | j + 1 => ((riJ_red p i h j).set _ (Nat.mod_lt _ (by decide))).set _ (Nat.mod_lt _ (by decide))
theorem riv_red (p : List Int) : ∀ i, Red (rivA p i)
  | 0 => red_rep
  | i + 1 => riJ_red p i (riv_red p i) 128
theorem riJ_fv {p : List Int} (hp : Red p) (i : Nat) {out : List Int} (h : Red out) : ∀ n, n ≤ 128 → ∀ j m, m < 2 → j < 128 → fv (riJ p i out n) (2 * j + m) = if j < n then fv out (2 * j + m) + fv p (2 * i + m) * (fi 3303 * wi i ^ j) else fv out (2 * j + m) := by
  intro n
  induction n with
  | zero => intro _ j m _ _; rw [riJ, if_neg (by omega)]
  | succ n ih =>
    intro hn j m hm hj
    have hr := riJ_red p i h n
    have hk := riK_fi (wN i) n
    rw [riJ]
    have e1 : Red ((riJ p i out n).set (2 * n) (((tn (riJ p i out n) (2 * n) + tn p (2 * i) * riK (wN i) n) % 3329 : Nat) : Int)) := hr.set _ (Nat.mod_lt _ (by decide))
    rw [fv_set e1.len (by omega), fi_modn, fi_addn, fi_muln, e1.fv, hp.fv, hk, fv_set hr.len (by omega), fv_set hr.len (by omega), fi_modn, fi_addn, fi_muln, hr.fv, hp.fv, hk, if_neg (show ¬ 2 * n = 2 * n + 1 by omega)]
    have i0 := ih (by omega) n 0 (by decide) (by omega)
    have i1 := ih (by omega) n 1 (by decide) (by omega)
    rw [if_neg (Nat.lt_irrefl n), Nat.add_zero] at i0
    rw [if_neg (Nat.lt_irrefl n)] at i1
    by_cases e : j = n
    · subst e
      rw [if_pos (show j < j + 1 by omega)]
      match m, hm with
      | 0, _ => rw [if_neg (show ¬ 2 * j + 1 = 2 * j + 0 by omega), if_pos (show 2 * j = 2 * j + 0 by omega), i0]; rfl
      | 1, _ => rw [if_pos rfl, i1]; rfl
    · rw [if_neg (show ¬ 2 * n + 1 = 2 * j + m by omega), if_neg (show ¬ 2 * n = 2 * j + m by omega), ih (by omega) j m hm hj]
      by_cases hl : j < n
      · rw [if_pos hl, if_pos (show j < n + 1 by omega)]
      · rw [if_neg hl, if_neg (show ¬ j < n + 1 by omega)]
theorem riv_fv {p : List Int} (hp : Red p) : ∀ n, n ≤ 128 → ∀ j m, m < 2 → j < 128 → fv (rivA p n) (2 * j + m) = sm (fun i => fv p (2 * i + m) * (fi 3303 * wi i ^ j)) n
  | 0, _, j, m, _, _ => fv_rep _
  | n + 1, h, j, m, hm, hj => by rw [rivA, riJ_fv hp n (riv_red p n) 128 (Nat.le_refl _) j m hm hj, if_pos hj, riv_fv hp n (by omega) j m hm hj, sm]
theorem cm (x y : F) : x * y = y * x := by grind
theorem fwd_riv (p : List Int) (hp : Red p) : fwd (rivA p 128) = p :=
  red_ext (fwd_red _ (riv_red p 128).len) hp fun j hj => by
    have h1 := fwd_fv (rivA p 128) (riv_red p 128).len (j / 2) (j % 2) (by omega) (by omega)
    rw [show 2 * (j / 2) + j % 2 = j by omega] at h1
    rw [h1]
    unfold ev2
    rw [sm_congr 128 (g := fun q => sm (fun i => fv p (2 * i + j % 2) * (fi 3303 * (wi i * zr (j / 2)) ^ q)) 128) (fun q hq => by
      rw [show j % 2 + 2 * q = 2 * q + j % 2 by omega, riv_fv hp 128 (Nat.le_refl _) q (j % 2) (by omega) hq, cm, ← sm_mul]
      exact sm_congr 128 fun i _ => by rw [mul_pow]; grind)]
    rw [sm_swap, sm_congr 128 (g := fun i => fv p (2 * i + j % 2) * (if i = j / 2 then 1 else 0)) (fun i hi => by
      rw [← orth i (j / 2) hi (by omega), sm_mul, sm_mul])]
    rw [sm_one _ (j / 2) 128 (fun i _ hne => by rw [if_neg hne]; grind), if_pos (by omega), if_pos rfl, show 2 * (j / 2) + j % 2 = j by omega]; grind
theorem inv_eq (p : List Int) (hp : p.length = 256) : inv p = rivA (cl p) 128 := by
  have h := inv_fwd (rivA (cl p) 128) (riv_red _ _).len
  rw [fwd_riv _ (cl_red p hp), cl_of_red (riv_red _ _), inv_cl p hp] at h
  exact h

/-! ### Times -/
def zT (i : Nat) : Int := ((zmul ((zmul ((zz (i : Int) 7 : Nat) : Int) ((zz (i : Int) 7 : Nat) : Int) : Nat) : Int) 17 : Nat) : Int)
def tmA (p q : List Int) : Nat → List Int
  | 0 => List.replicate 256 0
  | i + 1 => ((tmA p q i).set (2 * i) ((zadd ((zmul (p.getD (2 * i) 0) (q.getD (2 * i) 0) : Nat) : Int) ((zmul ((zmul (p.getD (2 * i + 1) 0) (q.getD (2 * i + 1) 0) : Nat) : Int) (zT i) : Nat) : Int) : Nat) : Int)).set (2 * i + 1)
      ((zadd ((zmul (p.getD (2 * i) 0) (q.getD (2 * i + 1) 0) : Nat) : Int) ((zmul (p.getD (2 * i + 1) 0) (q.getD (2 * i) 0) : Nat) : Int) : Nat) : Int)
def tms (p q : List Int) : List Int := tmA (cl p) (cl q) 128
theorem zT_root : ∀ i, i < 128 → fi (zT i) = zr i := by decide +kernel
/-- The product's even and odd part. -/
def pm (z a0 a1 b0 b1 : F) (m : Nat) : F := if m = 0 then a0 * b0 + a1 * b1 * z else a0 * b1 + a1 * b0
theorem tm_red (p q : List Int) : ∀ i, Red (tmA p q i)
  | 0 => red_rep
  | i + 1 => ((tm_red p q i).set _ (zmod_lt _)).set _ (zmod_lt _)
theorem tm_fv (p q : List Int) : ∀ n, n ≤ 128 → ∀ b m, m < 2 → b < n → fv (tmA p q n) (2 * b + m) = pm (zr b) (fv p (2 * b)) (fv p (2 * b + 1)) (fv q (2 * b)) (fv q (2 * b + 1)) m := by
  intro n
  induction n with
  | zero => intro _ b m _ hb; omega
  | succ n ih =>
    intro hn b m hm hb
    rw [tmA, fv_set (by rw [List.length_set, (tm_red p q n).len]) (by omega), fv_set (tm_red p q n).len (by omega), fi_add, fi_add, fi_mul, fi_mul, fi_mul, fi_mul, fi_mul, zT_root n (by omega)]
    by_cases e : b = n
    · subst e
      match m, hm with
      | 0, _ => rw [if_neg (show ¬ 2 * b + 1 = 2 * b + 0 by omega), if_pos (show 2 * b = 2 * b + 0 by omega)]; rfl
      | 1, _ => rw [if_pos rfl]; rfl
    · rw [if_neg (show ¬ 2 * n + 1 = 2 * b + m by omega), if_neg (show ¬ 2 * n = 2 * b + m by omega)]; exact ih (by omega) b m hm (by omega)
theorem tms_red (p q : List Int) : Red (tms p q) := tm_red _ _ 128
theorem tms_fv (p q : List Int) (hp : p.length = 256) (hq : q.length = 256) (b m : Nat) (hb : b < 128) (hm : m < 2) : fv (tms p q) (2 * b + m) = pm (zr b) (fv p (2 * b)) (fv p (2 * b + 1)) (fv q (2 * b)) (fv q (2 * b + 1)) m := by
  rw [tms, tm_fv _ _ 128 (Nat.le_refl _) b m hm hb, cl_fv p hp _ (by omega), cl_fv p hp _ (by omega), cl_fv q hq _ (by omega), cl_fv q hq _ (by omega)]
/-- Two lists of rests are one, if they are so pair by pair. -/
theorem red_ext2 {l m : List Int} (hl : Red l) (hm : Red m) (h : ∀ b, b < 128 → ∀ k, k < 2 → fv l (2 * b + k) = fv m (2 * b + k)) : l = m :=
  red_ext hl hm fun j hj => by have := h (j / 2) (by omega) (j % 2) (by omega); rwa [show 2 * (j / 2) + j % 2 = j by omega] at this
def rtmA (p q : List Int) : Nat → List Int
  | 0 => List.replicate 256 0
  | i + 1 => ((rtmA p q i).set (2 * i) (((tn p (2 * i) * tn q (2 * i) + tn p (2 * i + 1) * tn q (2 * i + 1) % 3329 * rootN i) % 3329 : Nat) : Int)).set (2 * i + 1)
      (((tn p (2 * i) * tn q (2 * i + 1) + tn p (2 * i + 1) * tn q (2 * i)) % 3329 : Nat) : Int)
theorem rtm_red (p q : List Int) : ∀ i, Red (rtmA p q i)
  | 0 => red_rep
  | i + 1 => ((rtm_red p q i).set _ (Nat.mod_lt _ (by decide))).set _ (Nat.mod_lt _ (by decide))
theorem rtm_fv {p q : List Int} (hp : Red p) (hq : Red q) : ∀ n, n ≤ 128 → ∀ b m, m < 2 → b < n → fv (rtmA p q n) (2 * b + m) = pm (zr b) (fv p (2 * b)) (fv p (2 * b + 1)) (fv q (2 * b)) (fv q (2 * b + 1)) m := by
  intro n
  induction n with
  | zero => intro _ b m _ hb; omega
  | succ n ih =>
    intro hn b m hm hb
    rw [rtmA, fv_set (by rw [List.length_set, (rtm_red p q n).len]) (by omega), fv_set (rtm_red p q n).len (by omega), fi_modn, fi_modn, fi_addn, fi_addn, fi_muln, fi_muln, fi_muln, fi_muln, fi_modn, fi_muln, hp.fv, hp.fv, hq.fv, hq.fv]
    by_cases e : b = n
    · subst e
      match m, hm with
      | 0, _ => rw [if_neg (show ¬ 2 * b + 1 = 2 * b + 0 by omega), if_pos (show 2 * b = 2 * b + 0 by omega)]; rfl
      | 1, _ => rw [if_pos rfl]; rfl
    · rw [if_neg (show ¬ 2 * n + 1 = 2 * b + m by omega), if_neg (show ¬ 2 * n = 2 * b + m by omega)]; exact ih (by omega) b m hm (by omega)
theorem tms_eq (p q : List Int) (hp : p.length = 256) (hq : q.length = 256) : tms p q = rtmA (cl p) (cl q) 128 :=
  red_ext2 (tms_red p q) (rtm_red _ _ _) fun b hb m hm => by rw [tms, tm_fv _ _ 128 (Nat.le_refl _) b m hm hb, rtm_fv (cl_red p hp) (cl_red q hq) 128 (Nat.le_refl _) b m hm hb]

/-! ### Products -/
def rprJ (p q : List Int) (i : Nat) (out : List Int) : Nat → List Int
  | 0 => out
  | j + 1 => if i + j < 256 then (rprJ p q i out j).set (i + j) (((tn (rprJ p q i out j) (i + j) + tn p i * tn q j % 3329) % 3329 : Nat) : Int)
      else (rprJ p q i out j).set (i + j - 256) (((tn (rprJ p q i out j) (i + j - 256) + 3329 - tn p i * tn q j % 3329) % 3329 : Nat) : Int)
def rprA (p q : List Int) : Nat → List Int
  | 0 => List.replicate 256 0
  | i + 1 => rprJ p q i (rprA p q i) 256
theorem rprJ_red (p q : List Int) (i : Nat) {out : List Int} (h : Red out) : ∀ j, Red (rprJ p q i out j)
  | 0 => h
  | j + 1 => by
    simp only [rprJ]; split
    · exact (rprJ_red p q i h j).set _ (Nat.mod_lt _ (by decide))
    · exact (rprJ_red p q i h j).set _ (Nat.mod_lt _ (by decide))
theorem rpr_red (p q : List Int) : ∀ i, Red (rprA p q i)
  | 0 => red_rep
  | i + 1 => rprJ_red p q i (rpr_red p q i) 256
theorem rprJ_ev {p q : List Int} (hp : Red p) (hq : Red q) (z : F) (hz : z ^ 128 = -1) (m : Nat) (hm : m < 2) (i : Nat) (hi : i < 256) {out : List Int} (h : Red out) : ∀ j, j ≤ 256 → ev2 (fv (rprJ p q i out j)) z m = ev2 (fv out) z m + sm (fun j => fv p i * fv q j * yp z (i + j) m) j
  | 0, _ => by simp only [rprJ, sm]; grind
  | j + 1, hj => by
    have ih := rprJ_ev hp hq z hz m hm i hi h j (by omega)
    have hr := rprJ_red p q i h j
    rw [sm]
    simp only [rprJ]
    by_cases hc : i + j < 256
    · rw [if_pos hc, ev2_put (fv (rprJ p q i out j)) _ z (fv p i * fv q j) (i + j) m hc hm (fun k hk => by
        rw [fv_set hr.len hc, fi_modn, fi_addn, hr.fv, fi_modn, fi_muln, hp.fv, hq.fv]
        by_cases e : k = i + j
        · subst e; first | rw [if_pos rfl, if_pos rfl] | rw [if_pos rfl]
        · rw [if_neg (fun x => e x.symm), if_neg e]), ih]; grind
    · have hn : i + j - 256 < 256 := by omega
      have hw := yp_wrap z hz (i + j) m (by omega)
      rw [if_neg hc, ev2_put (fv (rprJ p q i out j)) _ z (- (fv p i * fv q j)) (i + j - 256) m hn hm (fun k hk => by
        rw [fv_set hr.len hn, fi_modn, fi_subn _ _ (Nat.le_of_lt (Nat.mod_lt _ (by decide))), hr.fv, fi_modn, fi_muln, hp.fv, hq.fv]
        by_cases e : k = i + j - 256
        · subst e; first | (rw [if_pos rfl, if_pos rfl]; grind) | (rw [if_pos rfl]; grind)
        · rw [if_neg (fun x => e x.symm), if_neg e]), ih]; grind
theorem rpr_ev {p q : List Int} (hp : Red p) (hq : Red q) (z : F) (hz : z ^ 128 = -1) (m : Nat) (hm : m < 2) : ∀ i, i ≤ 256 → ev2 (fv (rprA p q i)) z m = sm (fun i => sm (fun j => fv p i * fv q j * yp z (i + j) m) 256) i
  | 0, _ => by
    simp only [rprA, sm]; unfold ev2
    rw [sm_congr 128 (g := fun _ => 0) (fun q _ => by rw [fv_rep]; grind), sm_zero]
  | i + 1, hi => by rw [rprA, rprJ_ev hp hq z hz m hm i (by omega) (rpr_red p q i) 256 (Nat.le_refl _), rpr_ev hp hq z hz m hm i (by omega)]; rfl
/-- The double sum of products is the product of the sums. -/
theorem sum_pm (a b : Nat → F) (z : F) (m : Nat) (hm : m < 2) : sm (fun i => sm (fun j => a i * b j * yp z (i + j) m) 256) 256 = pm z (ev2 a z 0) (ev2 a z 1) (ev2 b z 0) (ev2 b z 1) m := by
  have lin : ∀ (c d : F) (f g : Nat → F) (n : Nat), sm (fun j => c * f j + d * g j) n = c * sm f n + d * sm g n := fun c d f g n => by rw [sm_add, sm_mul, sm_mul]
  rw [ev2_terms a z 0 (by decide), ev2_terms a z 1 (by decide), ev2_terms b z 0 (by decide), ev2_terms b z 1 (by decide)]
  match m, hm with
  | 0, _ =>
    rw [sm_congr 256 (g := fun i => sm (fun n => b n * yp z n 0) 256 * (a i * yp z i 0) + (z * sm (fun n => b n * yp z n 1) 256) * (a i * yp z i 1)) (fun i _ => by
      rw [sm_congr 256 (g := fun j => (a i * yp z i 0) * (b j * yp z j 0) + (z * (a i * yp z i 1)) * (b j * yp z j 1)) (fun j _ => by rw [yp_mul0]; grind), lin]; grind), lin]
    unfold pm; rw [if_pos rfl]; grind
  | 1, _ =>
    rw [sm_congr 256 (g := fun i => sm (fun n => b n * yp z n 1) 256 * (a i * yp z i 0) + sm (fun n => b n * yp z n 0) 256 * (a i * yp z i 1)) (fun i _ => by
      rw [sm_congr 256 (g := fun j => (a i * yp z i 0) * (b j * yp z j 1) + (a i * yp z i 1) * (b j * yp z j 0)) (fun j _ => by rw [yp_mul1]; grind), lin]; grind), lin]
    unfold pm; rw [if_neg (by decide)]; grind
theorem fwd_rpr (p q : List Int) (hp : Red p) (hq : Red q) : fwd (rprA p q 256) = tms (fwd p) (fwd q) :=
  red_ext2 (fwd_red _ (rpr_red p q 256).len) (tms_red _ _) fun b hb m hm => by
    have f1 := fun (k : Nat) (hk : k < 2) => fwd_fv p hp.len b k hb hk
    have f2 := fun (k : Nat) (hk : k < 2) => fwd_fv q hq.len b k hb hk
    have p0 := f1 0 (by decide); have p1 := f1 1 (by decide); have q0 := f2 0 (by decide); have q1 := f2 1 (by decide)
    rw [Nat.add_zero] at p0 q0
    rw [fwd_fv _ (rpr_red p q 256).len b m hb hm, rpr_ev hp hq _ (zr128 b hb) m hm 256 (Nat.le_refl _), sum_pm _ _ _ m hm, tms_fv _ _ (fwd_red p hp.len).len (fwd_red q hq.len).len b m hb hm, p0, p1, q0, q1]
def prd (p q : List Int) : List Int := inv (tms (fwd p) (fwd q))
theorem fwd_cl (p : List Int) (hp : p.length = 256) : fwd (cl p) = fwd p := by
  have e : ∀ i, fwL (cl p) i = fwL p i := by
    intro i
    induction i with
    | zero => rw [fwL, fwL, cl_of_red (cl_red p hp)]
    | succ i ih => rw [fwL, fwL, ih]
  rw [fwd, fwd, e]
theorem prd_red (p q : List Int) : Red (prd p q) := inv_red _ (tms_red _ _).len
theorem prd_eq (p q : List Int) (hp : p.length = 256) (hq : q.length = 256) : prd p q = rprA (cl p) (cl q) 256 := by
  have h := inv_fwd (rprA (cl p) (cl q) 256) (rpr_red _ _ _).len
  rw [fwd_rpr _ _ (cl_red p hp) (cl_red q hq), fwd_cl p hp, fwd_cl q hq, cl_of_red (rpr_red _ _ _)] at h
  exact h
theorem fwd_prd (p q : List Int) : fwd (prd p q) = tms (fwd p) (fwd q) := by
  rw [prd, fwd_inv _ (tms_red _ _).len, cl_of_red (tms_red _ _)]

/-! ### Laws -/
theorem inj_fwd {p q : List Int} (hp : Red p) (hq : Red q) (h : fwd p = fwd q) : p = q := by
  have h1 := inv_fwd p hp.len
  rw [h, inv_fwd q hq.len, cl_of_red hp, cl_of_red hq] at h1
  exact h1.symm
theorem fwd_plus (a b : List Int) (ha : a.length = 256) (hb : b.length = 256) : fwd (pl a b) = pl (fwd a) (fwd b) :=
  red_ext2 (fwd_red _ (pl_red a b ha).len) (pl_red _ _ (fwd_red a ha).len) fun k hk m hm => by
    rw [fwd_fv _ (pl_red a b ha).len k m hk hm, pl_fv _ _ (fwd_red a ha).len _ (by omega), fwd_fv a ha k m hk hm, fwd_fv b hb k m hk hm]
    unfold ev2
    rw [← sm_add]
    exact sm_congr 128 fun q hq => by rw [pl_fv a b ha _ (by omega)]; grind
theorem prd_comm (a b : List Int) (ha : a.length = 256) (hb : b.length = 256) : prd a b = prd b a := by
  unfold prd
  rw [show tms (fwd a) (fwd b) = tms (fwd b) (fwd a) from red_ext2 (tms_red _ _) (tms_red _ _) fun k hk m hm => by
    rw [tms_fv _ _ (fwd_red a ha).len (fwd_red b hb).len k m hk hm, tms_fv _ _ (fwd_red b hb).len (fwd_red a ha).len k m hk hm]
    unfold pm; split <;> grind]
theorem prd_assoc (a b c : List Int) (ha : a.length = 256) (hb : b.length = 256) (hc : c.length = 256) : prd (prd a b) c = prd a (prd b c) := by
  have h1 := (fwd_red a ha).len; have h2 := (fwd_red b hb).len; have h3 := (fwd_red c hc).len
  show inv (tms (fwd (prd a b)) (fwd c)) = inv (tms (fwd a) (fwd (prd b c)))
  rw [fwd_prd, fwd_prd]
  rw [show tms (tms (fwd a) (fwd b)) (fwd c) = tms (fwd a) (tms (fwd b) (fwd c)) from red_ext2 (tms_red _ _) (tms_red _ _) fun k hk m hm => by
    have t1 := tms_fv (fwd a) (fwd b) h1 h2 k 0 hk (by decide); have t2 := tms_fv (fwd a) (fwd b) h1 h2 k 1 hk (by decide)
    have t3 := tms_fv (fwd b) (fwd c) h2 h3 k 0 hk (by decide); have t4 := tms_fv (fwd b) (fwd c) h2 h3 k 1 hk (by decide)
    rw [Nat.add_zero] at t1 t3
    rw [tms_fv _ _ (tms_red _ _).len h3 k m hk hm, tms_fv _ _ h1 (tms_red _ _).len k m hk hm, t1, t2, t3, t4]
    unfold pm; simp only [if_pos, if_neg (show ¬ (1 = 0) by decide)]; split <;> grind]
theorem prd_dist (a b c : List Int) (ha : a.length = 256) (hb : b.length = 256) (hc : c.length = 256) : prd a (pl b c) = pl (prd a b) (prd a c) := by
  have h1 := (fwd_red a ha).len; have h2 := (fwd_red b hb).len; have h3 := (fwd_red c hc).len
  refine inj_fwd (prd_red _ _) (pl_red _ _ (prd_red _ _).len) ?_
  rw [fwd_prd, fwd_plus b c hb hc, fwd_plus _ _ (prd_red a b).len (prd_red a c).len, fwd_prd, fwd_prd]
  exact red_ext2 (tms_red _ _) (pl_red _ _ (tms_red _ _).len) fun k hk m hm => by
    have hb1 := pl_fv (fwd b) (fwd c) h2 (2 * k) (by omega); have hb2 := pl_fv (fwd b) (fwd c) h2 (2 * k + 1) (by omega)
    rw [tms_fv _ _ h1 (pl_red _ _ h2).len k m hk hm, pl_fv _ _ (tms_red _ _).len _ (by omega), tms_fv _ _ h1 h2 k m hk hm, tms_fv _ _ h1 h3 k m hk hm, hb1, hb2]
    unfold pm; split <;> grind
theorem minus_plus (a b : List Int) (ha : a.length = 256) (hb : b.length = 256) : mi (pl a b) b = cl a :=
  red_ext (mi_red _ _ (pl_red a b ha).len) (cl_red a ha) fun j hj => by rw [mi_fv _ _ (pl_red a b ha).len j hj, pl_fv a b ha j hj, cl_fv a ha j hj]; grind

/-! ### Powers of X -/
/-- What the product with c X^k must hold at a place. -/
def mvV (p : List Int) (c : Int) (k i : Nat) : Nat := if i + k < 256 then zmul (p.getD i 0) c else zsub 0 ((zmul (p.getD i 0) c : Nat) : Int)
def mvP (k i : Nat) : Nat := if i + k < 256 then i + k else i + k - 256
theorem fv_xk (c : Int) (k : Nat) (hk : k < 256) (j : Nat) : fv ((List.replicate 256 0).set k c) j = if j = k then fi c else 0 := by
  rw [fv_set List.length_replicate hk, fv_rep]
  by_cases e : j = k
  · subst e; first | rw [if_pos rfl, if_pos rfl] | rw [if_pos rfl]
  · rw [if_neg (fun x => e x.symm), if_neg e]
def mvA (p : List Int) (c : Int) (k : Nat) : Nat → List Int
  | 0 => List.replicate 256 0
  | i + 1 => (mvA p c k i).set (mvP k i) ((mvV p c k i : Nat) : Int)
theorem mvV_lt (p : List Int) (c : Int) (k i : Nat) : mvV p c k i < 3329 := by unfold mvV; split; exact zmul_lt _ _; exact zmod_lt _
theorem mvP_lt (k i : Nat) (hk : k < 256) (hi : i < 256) : mvP k i < 256 := by unfold mvP; split <;> omega
theorem mv_red (p : List Int) (c : Int) (k : Nat) : ∀ i, Red (mvA p c k i)
  | 0 => red_rep
  | i + 1 => (mv_red p c k i).set _ (mvV_lt _ _ _ _)
theorem mvP_inj (k i j : Nat) (hk : k < 256) (hi : i < 256) (hj : j < 256) (h : mvP k i = mvP k j) : i = j := by unfold mvP at h; split at h <;> split at h <;> omega
theorem mv_get (p : List Int) (c : Int) (k : Nat) (hk : k < 256) : ∀ n, n ≤ 256 → ∀ i, i < 256 → (mvA p c k n).getD (mvP k i) 0 = if i < n then ((mvV p c k i : Nat) : Int) else 0 := by
  intro n
  induction n with
  | zero => intro _ i _; rw [if_neg (by omega), mvA, List.getD_eq_getElem?_getD, List.getElem?_replicate]; split <;> rfl
  | succ n ih =>
    intro hn i hi
    rw [mvA, getS (by rw [(mv_red p c k n).len]; exact mvP_lt k n hk (by omega)), ih (by omega) i hi]
    by_cases e : i = n
    · subst e; rw [if_pos rfl, if_pos (show i < i + 1 by omega)]
    · rw [if_neg (show ¬ mvP k n = mvP k i from fun x => e (mvP_inj k n i hk (by omega) hi x).symm)]
      by_cases h : i < n
      · rw [if_pos h, if_pos (show i < n + 1 by omega)]
      · rw [if_neg h, if_neg (show ¬ i < n + 1 by omega)]
theorem mv_ev (p : List Int) (c : Int) (k : Nat) (hk : k < 256) (z : F) (hz : z ^ 128 = -1) (m : Nat) (hm : m < 2) : ∀ n, n ≤ 256 → ev2 (fv (mvA p c k n)) z m = sm (fun i => fv p i * fi c * yp z (i + k) m) n
  | 0, _ => by
    simp only [mvA, sm]; unfold ev2
    rw [sm_congr 128 (g := fun _ => 0) (fun q _ => by rw [fv_rep]; grind), sm_zero]
  | n + 1, hn => by
    have hP := mvP_lt k n hk (by omega)
    have h0 : fv (mvA p c k n) (mvP k n) = 0 := by unfold fv; rw [mv_get p c k hk n (by omega) n (by omega), if_neg (Nat.lt_irrefl n)]; rfl
    have hv : fi ((mvV p c k n : Nat) : Int) * yp z (mvP k n) m = fv p n * fi c * yp z (n + k) m := by
      unfold mvV mvP
      by_cases h : n + k < 256
      · rw [if_pos h, if_pos h, fi_mul]; rfl
      · rw [if_neg h, if_neg h, fi_sub, fi_mul, yp_wrap z hz (n + k) m (by omega)]
        show (fi 0 - fi (p.getD n 0) * fi c) * _ = fi (p.getD n 0) * fi c * _
        rw [show fi 0 = 0 from rfl]; grind
    rw [mvA, ev2_put (fv (mvA p c k n)) _ z (fi ((mvV p c k n : Nat) : Int)) (mvP k n) m hP hm (fun j hj => by
      rw [fv_set (mv_red p c k n).len hP]
      by_cases e : j = mvP k n
      · subst e; rw [if_pos rfl, if_pos rfl, h0]; grind
      · rw [if_neg (fun x => e x.symm), if_neg e]), mv_ev p c k hk z hz m hm n (by omega), sm, hv]
theorem prd_xk (p : List Int) (hp : p.length = 256) (c : Int) (k : Nat) (hk : k < 256) : prd p ((List.replicate 256 0).set k c) = mvA p c k 256 := by
  have hx : ((List.replicate 256 (0 : Int)).set k c).length = 256 := by rw [List.length_set, List.length_replicate]
  refine inj_fwd (prd_red _ _) (mv_red p c k 256) ?_
  rw [fwd_prd]
  refine red_ext2 (tms_red _ _) (fwd_red _ (mv_red p c k 256).len) fun b hb m hm => ?_
  have p0 := fwd_fv p hp b 0 hb (by decide); have p1 := fwd_fv p hp b 1 hb (by decide)
  have q0 := fwd_fv _ hx b 0 hb (by decide); have q1 := fwd_fv _ hx b 1 hb (by decide)
  rw [Nat.add_zero] at p0 q0
  rw [tms_fv _ _ (fwd_red p hp).len (fwd_red _ hx).len b m hb hm, p0, p1, q0, q1, fwd_fv _ (mv_red p c k 256).len b m hb hm, mv_ev p c k hk _ (zr128 b hb) m hm 256 (Nat.le_refl _), ← sum_pm _ _ _ m hm]
  refine sm_congr 256 fun i _ => ?_
  rw [sm_one _ k 256 (fun j _ hne => by rw [fv_xk c k hk j, if_neg hne]; grind), if_pos hk, fv_xk c k hk k, if_pos rfl]
theorem prd_xk_get (p : List Int) (hp : p.length = 256) (c : Int) (k : Nat) (hk : k < 256) (i : Nat) (hi : i < 256) : (prd p ((List.replicate 256 0).set k c)).getD (mvP k i) 0 = ((mvV p c k i : Nat) : Int) := by
  rw [prd_xk p hp c k hk, mv_get p c k hk 256 (Nat.le_refl _) i hi, if_pos hi]
end Go.Rx
