/- Plain functions of layer 11, as the program and the document reckon them; what they are in the field of 3329. No program and no memory here. -/
import Derived.Test.YtaignhikdfpbbaaDoorZk
import Derived.Test.YtaignhikdfpbbaaDoorNa
set_option maxRecDepth 100000
namespace Go.Rx
open Go.Rx.Na

/-! ### The field -/
abbrev F := Fin 3329
def fi (x : Int) : F := Fin.ofNat 3329 (zmod x)
theorem fi_val (x : Int) : (fi x).val = zmod x := by
  show zmod x % 3329 = zmod x; exact Nat.mod_eq_of_lt (zmod_lt x)
theorem fi_zmod (x : Int) : fi ((zmod x : Nat) : Int) = fi x := by apply Fin.ext; rw [fi_val, fi_val, zmod_zmod]
theorem fi_add (x y : Int) : fi ((zadd x y : Nat) : Int) = fi x + fi y := by
  apply Fin.ext; rw [fi_val, zmod_zadd, zadd_eq, Fin.val_add, fi_val, fi_val]
theorem fi_mul (x y : Int) : fi ((zmul x y : Nat) : Int) = fi x * fi y := by
  apply Fin.ext; rw [fi_val, zmod_zmul, Fin.val_mul, fi_val, fi_val]; rfl
theorem fi_sub (x y : Int) : fi ((zsub x y : Nat) : Int) = fi x - fi y := by
  apply Fin.ext; rw [fi_val, zmod_zsub, zsub_eq, Fin.sub_def]
  show _ = (3329 - (fi y).val + (fi x).val) % 3329
  rw [fi_val, fi_val]; have := zmod_lt y; congr 1; omega
theorem fi_nat (n : Nat) : fi (n : Int) = Fin.ofNat 3329 n := by apply Fin.ext; rw [fi_val, zmod_nat]; rfl
theorem fi_inj {x y : Int} (hx : 0 ≤ x ∧ x < 3329) (hy : 0 ≤ y ∧ y < 3329) (h : fi x = fi y) : x = y := by
  have e := congrArg Fin.val h
  rw [fi_val, fi_val] at e
  unfold zmod at e; omega
theorem fi_modn (n : Nat) : fi ((n % 3329 : Nat) : Int) = fi (n : Int) := by apply Fin.ext; rw [fi_val, fi_val, zmod_nat, zmod_nat, Nat.mod_mod]
theorem fi_addn (m n : Nat) : fi ((m + n : Nat) : Int) = fi (m : Int) + fi (n : Int) := by
  apply Fin.ext; rw [fi_val, zmod_nat, Fin.val_add, fi_val, fi_val, zmod_nat, zmod_nat]; omega
theorem fi_muln (m n : Nat) : fi ((m * n : Nat) : Int) = fi (m : Int) * fi (n : Int) := by
  apply Fin.ext; rw [fi_val, zmod_nat, Fin.val_mul, fi_val, fi_val, zmod_nat, zmod_nat, ← Nat.mul_mod]
theorem fi_subn (m n : Nat) (h : n ≤ 3329) : fi ((m + 3329 - n : Nat) : Int) = fi (m : Int) - fi (n : Int) := by
  apply Fin.ext; rw [fi_val, zmod_nat, Fin.sub_def]
  show _ = (3329 - (fi (n : Int)).val + (fi (m : Int)).val) % 3329
  rw [fi_val, fi_val, zmod_nat, zmod_nat]; omega

/-! ### Lists of 256 -/
def fv (l : List Int) (j : Nat) : F := fi (l.getD j 0)
def tn (l : List Int) (j : Nat) : Nat := (l.getD j 0).toNat
structure Red (l : List Int) : Prop where
  len : l.length = 256
  rng : ∀ j, 0 ≤ l.getD j 0 ∧ l.getD j 0 < 3329
theorem Red.tn {l : List Int} (h : Red l) (j : Nat) : l.getD j 0 = ((tn l j : Nat) : Int) := by unfold Rx.tn; have := h.rng j; omega
theorem Red.lt {l : List Int} (h : Red l) (j : Nat) : Rx.tn l j < 3329 := by unfold Rx.tn; have := h.rng j; omega
theorem Red.fv {l : List Int} (h : Red l) (j : Nat) : fi ((Rx.tn l j : Nat) : Int) = Rx.fv l j := by rw [Rx.fv, h.tn j]
theorem getS {l : List Int} {i j : Nat} {v : Int} (hi : i < l.length) : (l.set i v).getD j 0 = if i = j then v else l.getD j 0 := by
  simp only [List.getD_eq_getElem?_getD, List.getElem?_set]
  by_cases e : i = j
  · subst e; simp [hi]
  · simp [e]
theorem getS' {l : List Int} {i j : Nat} {v : Int} : (l.set i v).getD j 0 = if i = j ∧ i < l.length then v else l.getD j 0 := by
  by_cases hi : i < l.length
  · rw [getS hi]; simp [hi]
  · rw [List.set_eq_of_length_le (by omega), if_neg (fun h => hi h.2)]
theorem Red.set {l : List Int} (h : Red l) (i : Nat) {v : Nat} (hv : v < 3329) : Red (l.set i (v : Int)) :=
  ⟨by rw [List.length_set, h.len], fun j => by rw [getS']; split; omega; exact h.rng j⟩
theorem red_rep : Red (List.replicate 256 0) := ⟨List.length_replicate, fun j => by rw [show (List.replicate 256 (0 : Int)).getD j 0 = 0 by rw [List.getD_eq_getElem?_getD, List.getElem?_replicate]; split <;> rfl]; omega⟩
theorem fv_set {l : List Int} (hl : l.length = 256) {i : Nat} (hi : i < 256) (v : Int) (j : Nat) : fv (l.set i v) j = if i = j then fi v else fv l j := by
  unfold fv; rw [getS (by omega)]; split <;> rfl
theorem fv_rep (j : Nat) : fv (List.replicate 256 0) j = 0 := by
  unfold fv; rw [show (List.replicate 256 (0 : Int)).getD j 0 = 0 by rw [List.getD_eq_getElem?_getD, List.getElem?_replicate]; split <;> rfl]; rfl
theorem ext256 {l m : List Int} (hl : l.length = 256) (hm : m.length = 256) (h : ∀ j, j < 256 → l.getD j 0 = m.getD j 0) : l = m := by
  apply List.ext_getElem? ; intro j
  by_cases hj : j < 256
  · have e := h j hj
    rw [List.getD_eq_getElem?_getD, List.getD_eq_getElem?_getD, List.getElem?_eq_getElem (by omega), List.getElem?_eq_getElem (by omega)] at e
    rw [List.getElem?_eq_getElem (by omega), List.getElem?_eq_getElem (by omega)]
    exact congrArg some e
  · rw [List.getElem?_eq_none (by omega), List.getElem?_eq_none (by omega)]
theorem red_ext {l m : List Int} (hl : Red l) (hm : Red m) (h : ∀ j, j < 256 → fv l j = fv m j) : l = m :=
  ext256 hl.len hm.len fun j hj => fi_inj (hl.rng j) (hm.rng j) (h j hj)

/-! ### Place by place -/
def eaA (o : Int → Int → Nat) (p q : List Int) : Nat → List Int
  | 0 => p
  | k + 1 => (eaA o p q k).set k ((o ((eaA o p q k).getD k 0) (q.getD k 0) : Nat) : Int)
theorem eaA_len (o : Int → Int → Nat) (p q : List Int) : ∀ k, (eaA o p q k).length = p.length
  | 0 => rfl
  | k + 1 => by rw [eaA, List.length_set, eaA_len o p q k]
theorem eaA_get (o : Int → Int → Nat) (p q : List Int) (hp : p.length = 256) : ∀ k, k ≤ 256 → ∀ j, (eaA o p q k).getD j 0 = if j < k then ((o (p.getD j 0) (q.getD j 0) : Nat) : Int) else p.getD j 0 := by
  intro k
  induction k with
  | zero => intro _ j; rw [eaA, if_neg (by omega)]
  | succ k ih =>
    intro hk j
    rw [eaA, getS (by rw [eaA_len]; omega), ih (by omega) k, if_neg (Nat.lt_irrefl k), ih (by omega) j]
    by_cases e : k = j
    · subst e; rw [if_pos rfl, if_pos (by omega)]
    · rw [if_neg e]
      by_cases h : j < k
      · rw [if_pos h, if_pos (by omega)]
      · rw [if_neg h, if_neg (by omega)]
def cl (p : List Int) : List Int := eaA (fun x _ => zmod x) p p 256
def pl (p q : List Int) : List Int := eaA zadd p q 256
def mi (p q : List Int) : List Int := eaA zsub p q 256
def scl (p : List Int) : List Int := eaA (fun x _ => zmul x 3303) p p 256
theorem ea_red (o : Int → Int → Nat) (ho : ∀ x y, o x y < 3329) (p q : List Int) (hp : p.length = 256) : Red (eaA o p q 256) :=
  ⟨by rw [eaA_len, hp], fun j => by
    rw [eaA_get o p q hp 256 (Nat.le_refl _) j]
    split
    · have := ho (p.getD j 0) (q.getD j 0); omega
    · rename_i h; rw [List.getD_eq_getElem?_getD, List.getElem?_eq_none (by omega)]; exact ⟨by decide, by decide⟩⟩
theorem cl_red (p : List Int) (hp : p.length = 256) : Red (cl p) := ea_red _ (fun x _ => zmod_lt x) p p hp
theorem pl_red (p q : List Int) (hp : p.length = 256) : Red (pl p q) := ea_red _ (fun _ _ => zmod_lt _) p q hp
theorem mi_red (p q : List Int) (hp : p.length = 256) : Red (mi p q) := ea_red _ (fun _ _ => zmod_lt _) p q hp
theorem sc_red (p : List Int) (hp : p.length = 256) : Red (scl p) := ea_red _ (fun _ _ => zmul_lt _ _) p p hp
theorem cl_fv (p : List Int) (hp : p.length = 256) (j : Nat) (hj : j < 256) : fv (cl p) j = fv p j := by unfold fv cl; rw [eaA_get _ p p hp 256 (Nat.le_refl _) j, if_pos hj, fi_zmod]
theorem pl_fv (p q : List Int) (hp : p.length = 256) (j : Nat) (hj : j < 256) : fv (pl p q) j = fv p j + fv q j := by unfold fv pl; rw [eaA_get _ p q hp 256 (Nat.le_refl _) j, if_pos hj, fi_add]
theorem mi_fv (p q : List Int) (hp : p.length = 256) (j : Nat) (hj : j < 256) : fv (mi p q) j = fv p j - fv q j := by unfold fv mi; rw [eaA_get _ p q hp 256 (Nat.le_refl _) j, if_pos hj, fi_sub]
theorem sc_fv (p : List Int) (hp : p.length = 256) (j : Nat) (hj : j < 256) : fv (scl p) j = fv p j * fi 3303 := by unfold fv scl; rw [eaA_get _ p p hp 256 (Nat.le_refl _) j, if_pos hj, fi_mul]
theorem cl_of_red {p : List Int} (h : Red p) : cl p = p := red_ext (cl_red p h.len) h fun j hj => cl_fv p h.len j hj
/-- The document's sum and difference, of lists that are rests. -/
def rplA (p q : List Int) : Nat → List Int
  | 0 => p
  | k + 1 => (rplA p q k).set k (((tn (rplA p q k) k + tn q k) % 3329 : Nat) : Int)
def rmiA (p q : List Int) : Nat → List Int
  | 0 => p
  | k + 1 => (rmiA p q k).set k (((tn (rmiA p q k) k + 3329 - tn q k) % 3329 : Nat) : Int)
theorem rpl_red {p q : List Int} (hp : Red p) : ∀ k, Red (rplA p q k)
  | 0 => hp
  | k + 1 => (rpl_red hp k).set k (Nat.mod_lt _ (by decide))
theorem rmi_red {p q : List Int} (hp : Red p) : ∀ k, Red (rmiA p q k)
  | 0 => hp
  | k + 1 => (rmi_red hp k).set k (Nat.mod_lt _ (by decide))
theorem rpl_fv {p q : List Int} (hp : Red p) (hq : Red q) : ∀ k, k ≤ 256 → ∀ j, fv (rplA p q k) j = if j < k then fv p j + fv q j else fv p j := by
  intro k
  induction k with
  | zero => intro _ j; rw [rplA, if_neg (by omega)]
  | succ k ih =>
    intro hk j
    rw [rplA, fv_set (rpl_red hp k).len (by omega), fi_modn, fi_addn, (rpl_red hp k).fv, hq.fv, ih (by omega) k, if_neg (Nat.lt_irrefl k), ih (by omega) j]
    by_cases e : k = j
    · subst e; rw [if_pos rfl, if_pos (by omega)]
    · rw [if_neg e]
      by_cases h : j < k
      · rw [if_pos h, if_pos (by omega)]
      · rw [if_neg h, if_neg (by omega)]
theorem rmi_fv {p q : List Int} (hp : Red p) (hq : Red q) : ∀ k, k ≤ 256 → ∀ j, fv (rmiA p q k) j = if j < k then fv p j - fv q j else fv p j := by
  intro k
  induction k with
  | zero => intro _ j; rw [rmiA, if_neg (by omega)]
  | succ k ih =>
    intro hk j
    rw [rmiA, fv_set (rmi_red hp k).len (by omega), fi_modn, fi_subn _ _ (by have := hq.lt k; omega), (rmi_red hp k).fv, hq.fv, ih (by omega) k, if_neg (Nat.lt_irrefl k), ih (by omega) j]
    by_cases e : k = j
    · subst e; rw [if_pos rfl, if_pos (by omega)]
    · rw [if_neg e]
      by_cases h : j < k
      · rw [if_pos h, if_pos (by omega)]
      · rw [if_neg h, if_neg (by omega)]
theorem pl_eq (p q : List Int) (hp : p.length = 256) (hq : q.length = 256) : pl p q = rplA (cl p) (cl q) 256 :=
  red_ext (pl_red p q hp) (rpl_red (cl_red p hp) 256) fun j hj => by rw [pl_fv p q hp j hj, rpl_fv (cl_red p hp) (cl_red q hq) 256 (Nat.le_refl _) j, if_pos hj, cl_fv p hp j hj, cl_fv q hq j hj]
theorem mi_eq (p q : List Int) (hp : p.length = 256) (hq : q.length = 256) : mi p q = rmiA (cl p) (cl q) 256 :=
  red_ext (mi_red p q hp) (rmi_red (cl_red p hp) 256) fun j hj => by rw [mi_fv p q hp j hj, rmi_fv (cl_red p hp) (cl_red q hq) 256 (Nat.le_refl _) j, if_pos hj, cl_fv p hp j hj, cl_fv q hq j hj]

/-! ### There -/
def lenF : Nat → Nat
  | 0 => 128
  | i + 1 => lenF i / 2
def nbF : Nat → Nat
  | 0 => 1
  | i + 1 => 2 * nbF i
def kF : Nat → Nat
  | 0 => 1
  | i + 1 => kF i + nbF i
theorem F_facts : ∀ i, i < 7 → 2 * lenF i * nbF i = 256 ∧ 0 < lenF i ∧ kF i = nbF i ∧ 2 ≤ lenF i ∧ nbF i ≤ 64 ∧ lenF i ≤ 128 := by decide
theorem F_end : ∀ i, i ≤ 7 → (2 ≤ lenF i ↔ i < 7) ∧ lenF i ≤ 128 ∧ kF i ≤ 128 := by decide
theorem blkF (L n b : Nat) (h : 2 * L * n = 256) (hL : 0 < L) : (2 * L * b < 256 → b < n ∧ 2 * L * b + 2 * L ≤ 256) ∧ (¬ 2 * L * b < 256 → n ≤ b) := by
  refine ⟨fun hb => ?_, fun hb => ?_⟩
  · have h1 : b < n := Nat.lt_of_mul_lt_mul_left (a := 2 * L) (by omega)
    refine ⟨h1, ?_⟩
    have := Nat.mul_le_mul_left (2 * L) (show b + 1 ≤ n from h1)
    rw [Nat.mul_succ] at this; omega
  · exact Nat.le_of_mul_le_mul_left (show 2 * L * n ≤ 2 * L * b by omega) (by omega)
def bfF (z : Int) (L j : Nat) (q : List Int) : List Int :=
  (q.set (j + L) ((zsub (q.getD j 0) ((zmul z (q.getD (j + L) 0) : Nat) : Int) : Nat) : Int)).set j
    ((zadd ((q.set (j + L) ((zsub (q.getD j 0) ((zmul z (q.getD (j + L) 0) : Nat) : Int) : Nat) : Int)).getD j 0) ((zmul z (q.getD (j + L) 0) : Nat) : Int) : Nat) : Int)
def fwB (z : Int) (L s : Nat) (p : List Int) : Nat → List Int
  | 0 => p
  | i + 1 => bfF z L (s + i) (fwB z L s p i)
def fwS (i : Nat) (p : List Int) : Nat → List Int
  | 0 => p
  | b + 1 => fwB ((zz ((kF i + b : Nat) : Int) 7 : Nat) : Int) (lenF i) (2 * lenF i * b) (fwS i p b) (lenF i)
def fwL (p : List Int) : Nat → List Int
  | 0 => cl p
  | i + 1 => fwS i (fwL p i) (nbF i)
def fwd (p : List Int) : List Int := fwL p 7
theorem bfF_len (z : Int) (L j : Nat) (q : List Int) : (bfF z L j q).length = q.length := by unfold bfF; rw [List.length_set, List.length_set]
theorem fwB_len (z : Int) (L s : Nat) (p : List Int) : ∀ i, (fwB z L s p i).length = p.length
  | 0 => rfl
  | i + 1 => by rw [fwB, bfF_len, fwB_len z L s p i]
theorem fwS_len (i : Nat) (p : List Int) : ∀ b, (fwS i p b).length = p.length
  | 0 => rfl
  | b + 1 => by rw [fwS, fwB_len, fwS_len i p b]
theorem fwL_len (p : List Int) : ∀ i, (fwL p i).length = p.length
  | 0 => eaA_len _ _ _ _
  | i + 1 => by rw [fwL, fwS_len, fwL_len p i]
theorem bfF_red (z : Int) (L j : Nat) {q : List Int} (h : Red q) : Red (bfF z L j q) := (h.set _ (zmod_lt _)).set _ (zmod_lt _)
theorem fwB_red (z : Int) (L s : Nat) {p : List Int} (h : Red p) : ∀ i, Red (fwB z L s p i)
  | 0 => h
  | i + 1 => bfF_red _ _ _ (fwB_red z L s h i)
theorem fwS_red (i : Nat) {p : List Int} (h : Red p) : ∀ b, Red (fwS i p b)
  | 0 => h
  | b + 1 => fwB_red _ _ _ (fwS_red i h b) _
theorem fwL_red (p : List Int) (hp : p.length = 256) : ∀ i, Red (fwL p i)
  | 0 => cl_red p hp
  | i + 1 => fwS_red i (fwL_red p hp i) _
theorem bfF_fv (z : Int) (L j : Nat) (q : List Int) (hq : q.length = 256) (hL : 0 < L) (hj : j + L < 256) (k : Nat) : fv (bfF z L j q) k = if k = j then fv q j + fi z * fv q (j + L) else if k = j + L then fv q j - fi z * fv q (j + L) else fv q k := by
  unfold bfF
  rw [fv_set (by rw [List.length_set, hq]) (by omega), fi_add, fi_mul, getS (by omega), if_neg (show ¬ j + L = j by omega), fv_set hq hj, fi_sub, fi_mul]
  by_cases h1 : k = j
  · subst h1; rw [if_pos rfl, if_pos rfl]; rfl
  · rw [if_neg (show ¬ j = k from fun e => h1 e.symm), if_neg (show ¬ k = j from h1)]
    by_cases h2 : k = j + L
    · subst h2; rw [if_pos rfl, if_pos rfl]; rfl
    · rw [if_neg (show ¬ j + L = k from fun e => h2 e.symm), if_neg h2]
theorem fwB_fv (z : Int) (L s : Nat) (p : List Int) (hp : p.length = 256) (hL : 0 < L) (hs : s + 2 * L ≤ 256) : ∀ i, i ≤ L → ∀ k, fv (fwB z L s p i) k = if s ≤ k ∧ k < s + i then fv p k + fi z * fv p (k + L) else if s + L ≤ k ∧ k < s + L + i then fv p (k - L) - fi z * fv p k else fv p k := by
  intro i
  induction i with
  | zero => intro _ k; rw [fwB, if_neg (by omega), if_neg (by omega)]
  | succ i ih =>
    intro hi k
    have a0 : fv (fwB z L s p i) (s + i) = fv p (s + i) := by rw [ih (by omega), if_neg (by omega), if_neg (by omega)]
    have a1 : fv (fwB z L s p i) (s + i + L) = fv p (s + i + L) := by rw [ih (by omega), if_neg (by omega), if_neg (by omega)]
    rw [fwB, bfF_fv z L (s + i) _ (by rw [fwB_len, hp]) hL (by omega) k, a0, a1, ih (by omega) k]
    by_cases h1 : k = s + i
    · subst h1; rw [if_pos rfl, if_pos (by omega)]
    · rw [if_neg h1]
      by_cases h2 : k = s + i + L
      · subst h2; rw [if_pos rfl, if_neg (by omega), if_pos (by omega), Nat.add_sub_cancel]
      · rw [if_neg h2]
        by_cases h3 : s ≤ k ∧ k < s + i
        · rw [if_pos h3, if_pos (show s ≤ k ∧ k < s + (i + 1) by omega)]
        · rw [if_neg h3, if_neg (show ¬ (s ≤ k ∧ k < s + (i + 1)) by omega)]
          by_cases h4 : s + L ≤ k ∧ k < s + L + i
          · rw [if_pos h4, if_pos (show s + L ≤ k ∧ k < s + L + (i + 1) by omega)]
          · rw [if_neg h4, if_neg (show ¬ (s + L ≤ k ∧ k < s + L + (i + 1)) by omega)]
def zF (i b : Nat) : F := fi ((zz ((kF i + b : Nat) : Int) 7 : Nat) : Int)
theorem fwS_fv (i : Nat) (hi : i < 7) (p : List Int) (hp : p.length = 256) : ∀ b, b ≤ nbF i → ∀ k, fv (fwS i p b) k = if k < 2 * lenF i * b then fl (zF i) (lenF i) (fv p) k else fv p k := by
  obtain ⟨f1, f2, _, _, _, _⟩ := F_facts i hi
  intro b
  induction b with
  | zero => intro _ k; rw [fwS, if_neg (by omega)]
  | succ b ih =>
    intro hb k
    have hlt : 2 * lenF i * b < 256 := by rw [← f1]; exact Nat.mul_lt_mul_of_pos_left (by omega) (by omega)
    have h2 := ((blkF (lenF i) (nbF i) b f1 f2).1 hlt).2
    have e : ∀ k, ¬ k < 2 * lenF i * b → fv (fwS i p b) k = fv p k := fun k h => by rw [ih (by omega) k, if_neg h]
    rw [fwS, fwB_fv _ _ _ _ (by rw [fwS_len, hp]) f2 h2 _ (Nat.le_refl _) k, Nat.mul_succ]
    by_cases h3 : k < 2 * lenF i * b
    · rw [if_neg (by omega), if_neg (by omega), ih (by omega) k, if_pos h3, if_pos (by omega)]
    · by_cases h4 : k < 2 * lenF i * b + 2 * lenF i
      · have hdiv : k / (2 * lenF i) = b := Nat.div_eq_of_lt_le (by rw [Nat.mul_comm]; omega) (by rw [Nat.mul_comm, Nat.mul_succ]; omega)
        have hmod : k % (2 * lenF i) = k - 2 * lenF i * b := by have := Nat.div_add_mod k (2 * lenF i); rw [hdiv] at this; omega
        rw [if_pos h4]
        unfold fl
        rw [hdiv, hmod]
        by_cases h5 : k < 2 * lenF i * b + lenF i
        · rw [if_pos (by omega), if_pos (by omega), e k h3, e (k + lenF i) (by omega)]; rfl
        · rw [if_neg (by omega), if_pos (by omega), if_neg (by omega), e k h3, e (k - lenF i) (by omega)]; rfl
      · rw [if_neg (by omega), if_neg (by omega), if_neg h4, e k h3]
theorem fwL_fv (p : List Int) (hp : p.length = 256) (i : Nat) (hi : i < 7) (k : Nat) (hk : k < 256) : fv (fwL p (i + 1)) k = fl (zF i) (lenF i) (fv (fwL p i)) k := by
  rw [fwL, fwS_fv i hi _ (by rw [fwL_len, hp]) (nbF i) (Nat.le_refl _) k, (F_facts i hi).1, if_pos hk]

/-! ### And back -/
def lenI : Nat → Nat
  | 0 => 2
  | i + 1 => lenI i * 2
def nbI : Nat → Nat
  | 0 => 64
  | i + 1 => nbI i / 2
def kI : Nat → Nat
  | 0 => 127
  | i + 1 => kI i - nbI i
theorem I_facts : ∀ i, i < 7 → 2 * lenI i * nbI i = 256 ∧ 0 < lenI i ∧ nbI i ≤ kI i ∧ lenI i ≤ 128 ∧ nbI i ≤ 64 ∧ kI i ≤ 127 := by decide
theorem I_end : ∀ i, i ≤ 7 → (lenI i ≤ 128 ↔ i < 7) ∧ kI i ≤ 127 ∧ lenI i ≤ 256 := by decide
def bfI (z : Int) (L j : Nat) (q : List Int) : List Int :=
  (q.set j ((zadd (q.getD j 0) (q.getD (j + L) 0) : Nat) : Int)).set (j + L)
    ((zmul z ((zsub ((q.set j ((zadd (q.getD j 0) (q.getD (j + L) 0) : Nat) : Int)).getD (j + L) 0) (q.getD j 0) : Nat) : Int) : Nat) : Int)
def ivB (z : Int) (L s : Nat) (p : List Int) : Nat → List Int
  | 0 => p
  | i + 1 => bfI z L (s + i) (ivB z L s p i)
def ivS (i : Nat) (p : List Int) : Nat → List Int
  | 0 => p
  | b + 1 => ivB ((zz ((kI i - b : Nat) : Int) 7 : Nat) : Int) (lenI i) (2 * lenI i * b) (ivS i p b) (lenI i)
def ivL (p : List Int) : Nat → List Int
  | 0 => cl p
  | i + 1 => ivS i (ivL p i) (nbI i)
def inv (p : List Int) : List Int := scl (ivL p 7)
theorem bfI_len (z : Int) (L j : Nat) (q : List Int) : (bfI z L j q).length = q.length := by unfold bfI; rw [List.length_set, List.length_set]
theorem ivB_len (z : Int) (L s : Nat) (p : List Int) : ∀ i, (ivB z L s p i).length = p.length
  | 0 => rfl
  | i + 1 => by rw [ivB, bfI_len, ivB_len z L s p i]
theorem ivS_len (i : Nat) (p : List Int) : ∀ b, (ivS i p b).length = p.length
  | 0 => rfl
  | b + 1 => by rw [ivS, ivB_len, ivS_len i p b]
theorem ivL_len (p : List Int) : ∀ i, (ivL p i).length = p.length
  | 0 => eaA_len _ _ _ _
  | i + 1 => by rw [ivL, ivS_len, ivL_len p i]
theorem bfI_fv (z : Int) (L j : Nat) (q : List Int) (hq : q.length = 256) (hL : 0 < L) (hj : j + L < 256) (k : Nat) : fv (bfI z L j q) k = if k = j then fv q j + fv q (j + L) else if k = j + L then fi z * (fv q (j + L) - fv q j) else fv q k := by
  unfold bfI
  rw [fv_set (by rw [List.length_set, hq]) hj, fi_mul, fi_sub, getS (by omega), if_neg (show ¬ j = j + L by omega), fv_set hq (by omega), fi_add]
  by_cases h1 : k = j
  · subst h1; rw [if_neg (show ¬ k + L = k by omega), if_pos rfl, if_pos rfl]; rfl
  · by_cases h2 : k = j + L
    · subst h2; rw [if_pos rfl, if_neg h1, if_pos rfl]; rfl
    · rw [if_neg (show ¬ j + L = k from fun e => h2 e.symm), if_neg (show ¬ j = k from fun e => h1 e.symm), if_neg h1, if_neg h2]
theorem ivB_fv (z : Int) (L s : Nat) (p : List Int) (hp : p.length = 256) (hL : 0 < L) (hs : s + 2 * L ≤ 256) : ∀ i, i ≤ L → ∀ k, fv (ivB z L s p i) k = if s ≤ k ∧ k < s + i then fv p k + fv p (k + L) else if s + L ≤ k ∧ k < s + L + i then fi z * (fv p k - fv p (k - L)) else fv p k := by
  intro i
  induction i with
  | zero => intro _ k; rw [ivB, if_neg (by omega), if_neg (by omega)]
  | succ i ih =>
    intro hi k
    have a0 : fv (ivB z L s p i) (s + i) = fv p (s + i) := by rw [ih (by omega), if_neg (by omega), if_neg (by omega)]
    have a1 : fv (ivB z L s p i) (s + i + L) = fv p (s + i + L) := by rw [ih (by omega), if_neg (by omega), if_neg (by omega)]
    rw [ivB, bfI_fv z L (s + i) _ (by rw [ivB_len, hp]) hL (by omega) k, a0, a1, ih (by omega) k]
    by_cases h1 : k = s + i
    · subst h1; rw [if_pos rfl, if_pos (by omega)]
    · rw [if_neg h1]
      by_cases h2 : k = s + i + L
      · subst h2; rw [if_pos rfl, if_neg (by omega), if_pos (by omega), Nat.add_sub_cancel]
      · rw [if_neg h2]
        by_cases h3 : s ≤ k ∧ k < s + i
        · rw [if_pos h3, if_pos (show s ≤ k ∧ k < s + (i + 1) by omega)]
        · rw [if_neg h3, if_neg (show ¬ (s ≤ k ∧ k < s + (i + 1)) by omega)]
          by_cases h4 : s + L ≤ k ∧ k < s + L + i
          · rw [if_pos h4, if_pos (show s + L ≤ k ∧ k < s + L + (i + 1) by omega)]
          · rw [if_neg h4, if_neg (show ¬ (s + L ≤ k ∧ k < s + L + (i + 1)) by omega)]
def zI (i b : Nat) : F := fi ((zz ((kI i - b : Nat) : Int) 7 : Nat) : Int)
theorem ivS_fv (i : Nat) (hi : i < 7) (p : List Int) (hp : p.length = 256) : ∀ b, b ≤ nbI i → ∀ k, fv (ivS i p b) k = if k < 2 * lenI i * b then il (zI i) (lenI i) (fv p) k else fv p k := by
  obtain ⟨f1, f2, _, _, _, _⟩ := I_facts i hi
  intro b
  induction b with
  | zero => intro _ k; rw [ivS, if_neg (by omega)]
  | succ b ih =>
    intro hb k
    have hlt : 2 * lenI i * b < 256 := by rw [← f1]; exact Nat.mul_lt_mul_of_pos_left (by omega) (by omega)
    have h2 := ((blkF (lenI i) (nbI i) b f1 f2).1 hlt).2
    have e : ∀ k, ¬ k < 2 * lenI i * b → fv (ivS i p b) k = fv p k := fun k h => by rw [ih (by omega) k, if_neg h]
    rw [ivS, ivB_fv _ _ _ _ (by rw [ivS_len, hp]) f2 h2 _ (Nat.le_refl _) k, Nat.mul_succ]
    by_cases h3 : k < 2 * lenI i * b
    · rw [if_neg (by omega), if_neg (by omega), ih (by omega) k, if_pos h3, if_pos (by omega)]
    · by_cases h4 : k < 2 * lenI i * b + 2 * lenI i
      · have hdiv : k / (2 * lenI i) = b := Nat.div_eq_of_lt_le (by rw [Nat.mul_comm]; omega) (by rw [Nat.mul_comm, Nat.mul_succ]; omega)
        have hmod : k % (2 * lenI i) = k - 2 * lenI i * b := by have := Nat.div_add_mod k (2 * lenI i); rw [hdiv] at this; omega
        rw [if_pos h4]
        unfold il
        rw [hdiv, hmod]
        by_cases h5 : k < 2 * lenI i * b + lenI i
        · rw [if_pos (by omega), if_pos (by omega), e k h3, e (k + lenI i) (by omega)]
        · rw [if_neg (by omega), if_pos (by omega), if_neg (by omega), e k h3, e (k - lenI i) (by omega)]; rfl
      · rw [if_neg (by omega), if_neg (by omega), if_neg h4, e k h3]
theorem ivL_fv (p : List Int) (hp : p.length = 256) (i : Nat) (hi : i < 7) (k : Nat) (hk : k < 256) : fv (ivL p (i + 1)) k = il (zI i) (lenI i) (fv (ivL p i)) k := by
  rw [ivL, ivS_fv i hi _ (by rw [ivL_len, hp]) (nbI i) (Nat.le_refl _) k, (I_facts i hi).1, if_pos hk]
end Go.Rx
