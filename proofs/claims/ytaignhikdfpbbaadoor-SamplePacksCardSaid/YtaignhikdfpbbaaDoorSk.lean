/- Plain functions: words out of bytes, bytes out of words, the sponge as the program reckons it. -/
import Derived.Test.YtaignhikdfpbbaaDoorPk
namespace Go.Rx
def ldA (b : List UInt8) : Nat → UInt64
  | 0 => 0
  | k + 1 => ldA b k ||| ((b.getD k 0).toUInt64 <<< UInt64.ofNat (8 * k))
def ld8 (b : List UInt8) : UInt64 := ldA b (min b.length 8)
def stA (x : UInt64) : Nat → List UInt8
  | 0 => List.replicate 8 0
  | k + 1 => (stA x k).set k (x >>> UInt64.ofNat (8 * k)).toUInt8
theorem stA_len (x : UInt64) : ∀ k, (stA x k).length = 8
  | 0 => List.length_replicate
  | k + 1 => by rw [stA, List.length_set]; exact stA_len x k
def st8 (x : UInt64) : List UInt8 := stA x 8
theorem st8_len (x : UInt64) : (st8 x).length = 8 := stA_len x 8
def xoA (a b : List UInt8) : Nat → List UInt8
  | 0 => List.replicate (min a.length b.length) 0
  | k + 1 => (xoA a b k).set k (a.getD k 0 ^^^ b.getD k 0)
theorem xoA_len (a b : List UInt8) : ∀ k, (xoA a b k).length = min a.length b.length
  | 0 => List.length_replicate
  | k + 1 => by rw [xoA, List.length_set]; exact xoA_len a b k
def xorB (a b : List UInt8) : List UInt8 := xoA a b (min a.length b.length)
theorem xorB_len (a b : List UInt8) : (xorB a b).length = min a.length b.length := xoA_len a b _
def gaA (b : List UInt8) : Nat → UInt8
  | 0 => 0
  | k + 1 => gaA b k ||| b.getD k 0
theorem or_zero8 (x y : UInt8) : x ||| y = 0 ↔ x = 0 ∧ y = 0 := by
  constructor
  · intro h
    have h1 : ∀ i, (x.toBitVec ||| y.toBitVec).getLsbD i = false := fun i => by
      have : (x ||| y).toBitVec = 0#8 := by rw [h]; rfl
      rw [show (x ||| y).toBitVec = x.toBitVec ||| y.toBitVec from rfl] at this
      rw [this]; simp
    constructor
    · apply UInt8.toBitVec_inj.1; apply BitVec.eq_of_getLsbD_eq; intro i hi; have := h1 i; rw [BitVec.getLsbD_or] at this; simp at this; simpa using this.1
    · apply UInt8.toBitVec_inj.1; apply BitVec.eq_of_getLsbD_eq; intro i hi; have := h1 i; rw [BitVec.getLsbD_or] at this; simp at this; simpa using this.2
  · rintro ⟨rfl, rfl⟩; rfl
theorem gaA_zero (b : List UInt8) : ∀ k, gaA b k = 0 ↔ ∀ i, i < k → b.getD i 0 = 0
  | 0 => ⟨fun _ i h => by omega, fun _ => rfl⟩
  | k + 1 => by
    rw [gaA, or_zero8, gaA_zero b k]
    constructor
    · rintro ⟨h1, h2⟩ i hi
      rcases Nat.lt_or_ge i k with h | h
      · exact h1 i h
      · have : i = k := by omega
        subst this; exact h2
    · intro h; exact ⟨fun i hi => h i (by omega), h k (by omega)⟩
theorem xoA_get (a b : List UInt8) : ∀ (k i : Nat), k ≤ min a.length b.length → i < k → (xoA a b k).getD i 0 = a.getD i 0 ^^^ b.getD i 0
  | 0, i, _, h => by omega
  | k + 1, i, hk, h => by
    rw [xoA]
    simp only [List.getD_eq_getElem?_getD, List.getElem?_set]
    by_cases e : k = i
    · subst e; rw [if_pos rfl, if_pos (by rw [xoA_len]; omega)]; rfl
    · rw [if_neg e]; have := xoA_get a b k i (by omega) (by omega); simpa only [List.getD_eq_getElem?_getD] using this
theorem xor_zero8 (x y : UInt8) : x ^^^ y = 0 ↔ x = y := by
  constructor
  · intro h
    apply UInt8.toBitVec_inj.1
    have : (x ^^^ y).toBitVec = 0#8 := by rw [h]; rfl
    rw [show (x ^^^ y).toBitVec = x.toBitVec ^^^ y.toBitVec from rfl] at this
    apply BitVec.eq_of_getLsbD_eq; intro i hi
    have h2 := congrArg (fun v => v.getLsbD i) this
    simpa using h2
  · rintro rfl; apply UInt8.toBitVec_inj.1; show x.toBitVec ^^^ x.toBitVec = _; simp
theorem ext_getD {α : Type} (d : α) (a b : List α) (h : a.length = b.length) (hg : ∀ i, i < a.length → a.getD i d = b.getD i d) : a = b := by
  apply List.ext_getElem h
  intro i h1 h2
  have := hg i h1
  simpa [List.getD, List.getElem?_eq_getElem h1, List.getElem?_eq_getElem h2] using this
theorem equal_eq (a b : List UInt8) (h : a.length = b.length) : decide (gaA (xorB a b) (xorB a b).length = 0) = decide (a = b) := by
  apply decide_eq_decide.2
  rw [gaA_zero, xorB_len]
  constructor
  · intro hg
    apply ext_getD 0 a b h
    intro i hi
    have h1 := hg i (by omega)
    rw [xorB, xoA_get a b _ i (Nat.le_refl _) (by omega), xor_zero8] at h1
    exact h1
  · rintro rfl i hi
    rw [xorB, xoA_get a a _ i (Nat.le_refl _) hi, xor_zero8]
theorem equal_ne (a b : List UInt8) (h : ¬ a.length = b.length) : false = decide (a = b) := (decide_eq_false (fun e => h (by rw [e]))).symm

def layA (a : List UInt64) (b : List UInt8) : Nat → List UInt64
  | 0 => a
  | k + 1 => (layA a b k).set k ((layA a b k).getD k 0 ^^^ ld8 ((b.drop (8 * k)).take (min (8 * k + 8) b.length - 8 * k)))
theorem layA_len (a : List UInt64) (b : List UInt8) : ∀ k, (layA a b k).length = a.length
  | 0 => rfl
  | k + 1 => by rw [layA, List.length_set]; exact layA_len a b k
def lay (a : List UInt64) (b : List UInt8) : List UInt64 := layA a b ((b.length + 7) / 8)
theorem lay_len (a : List UInt64) (b : List UInt8) : (lay a b).length = a.length := layA_len a b _
def tkA (a : List UInt64) : Nat → List UInt8
  | 0 => []
  | k + 1 => tkA a k ++ st8 (a.getD k 0)
theorem tkA_len (a : List UInt64) : ∀ k, (tkA a k).length = 8 * k
  | 0 => rfl
  | k + 1 => by rw [tkA, List.length_append, tkA_len a k, st8_len]; omega
def tk (a : List UInt64) (n : Nat) : List UInt8 := (tkA a 25).take n
theorem tk_len (a : List UInt64) (n : Nat) (h : n ≤ 200) : (tk a n).length = n := by rw [tk, List.length_take, tkA_len]; omega

def padB (r : Nat) (l : List UInt8) : List UInt8 := l.take r ++ (List.replicate r (0 : UInt8)).drop (l.take r).length
theorem padB_len (r : Nat) (l : List UInt8) : (padB r l).length = r := by
  simp only [padB, List.length_append, List.length_take, List.length_drop, List.length_replicate]; omega
def lastB (r : Nat) (s : UInt8) (l : List UInt8) : List UInt8 :=
  ((padB r l).set l.length ((padB r l).getD l.length 0 ^^^ s)).set (r - 1) (((padB r l).set l.length ((padB r l).getD l.length 0 ^^^ s)).getD (r - 1) 0 ^^^ 128)
theorem lastB_len (r : Nat) (s : UInt8) (l : List UInt8) : (lastB r s l).length = r := by rw [lastB, List.length_set, List.length_set, padB_len]
def absF (r : Nat) (s : UInt8) : Nat → List UInt64 → List UInt8 → List UInt64
  | 0, a, l => kf (lay a (lastB r s l))
  | n + 1, a, l => if r ≤ l.length then absF r s n (kf (lay a (l.take r))) (l.drop r) else kf (lay a (lastB r s l))
theorem absF_more (r : Nat) (s : UInt8) (hr : 1 ≤ r) : ∀ (n m : Nat) (a : List UInt64) (l : List UInt8), l.length ≤ n → l.length ≤ m → absF r s n a l = absF r s m a l
  | 0, 0, a, l, _, _ => rfl
  | 0, m + 1, a, l, h, _ => by rw [absF, absF, if_neg (by omega)]
  | n + 1, 0, a, l, _, h => by rw [absF, absF, if_neg (by omega)]
  | n + 1, m + 1, a, l, h1, h2 => by
    rw [absF, absF]
    split
    · exact absF_more r s hr n m _ _ (by rw [List.length_drop]; omega) (by rw [List.length_drop]; omega)
    · rfl
def absR (r : Nat) (s : UInt8) (a : List UInt64) (l : List UInt8) : List UInt64 := absF r s l.length a l
theorem absR_step (r : Nat) (s : UInt8) (a : List UInt64) (l : List UInt8) (hr : 1 ≤ r) (h : r ≤ l.length) : absR r s a l = absR r s (kf (lay a (l.take r))) (l.drop r) := by
  unfold absR
  rw [absF_more r s hr l.length (l.length + 1) a l (Nat.le_refl _) (by omega), absF, if_pos h]
  exact absF_more r s hr _ _ _ _ (by rw [List.length_drop]; omega) (Nat.le_refl _)
theorem absR_end (r : Nat) (s : UInt8) (a : List UInt64) (l : List UInt8) (hr : 1 ≤ r) (h : ¬ r ≤ l.length) : absR r s a l = kf (lay a (lastB r s l)) := by
  unfold absR
  rw [absF_more r s hr l.length (l.length + 1) a l (Nat.le_refl _) (by omega), absF, if_neg h]
abbrev noughts : List UInt64 := List.replicate 25 0
theorem absF_len (r : Nat) (s : UInt8) : ∀ (n : Nat) (a : List UInt64) (l : List UInt8), a.length = 25 → (absF r s n a l).length = 25
  | 0, a, l, h => kf_len _ (by rw [lay_len, h])
  | n + 1, a, l, h => by
    rw [absF]; split
    · exact absF_len r s n _ _ (kf_len _ (by rw [lay_len, h]))
    · exact kf_len _ (by rw [lay_len, h])
theorem absR_len (r : Nat) (s : UInt8) (l : List UInt8) : (absR r s noughts l).length = 25 := absF_len r s _ _ _ List.length_replicate
def absZ (rate : Int) (s : UInt8) (l : List UInt8) : List UInt64 := if 1 ≤ rate ∧ rate ≤ 200 then absR rate.toNat s noughts l else noughts
theorem absZ_len (rate : Int) (s : UInt8) (l : List UInt8) : (absZ rate s l).length = 25 := by unfold absZ; split; exact absR_len _ _ _; exact List.length_replicate
def sum256 (b : List UInt8) : List UInt8 := tk (absR 136 6 noughts b) 32
def sum512 (b : List UInt8) : List UInt8 := tk (absR 72 6 noughts b) 64
theorem sum256_len (b : List UInt8) : (sum256 b).length = 32 := tk_len _ _ (by omega)
theorem sum512_len (b : List UInt8) : (sum512 b).length = 64 := tk_len _ _ (by omega)
/-- What a reader does: its state, what is left, what has come out. -/
def xrunF (r N : Nat) : Nat → (List UInt64 × List UInt8 × List UInt8) → (List UInt64 × List UInt8 × List UInt8)
  | 0, g => g
  | f + 1, g => if g.2.2.length < N then
      (if g.2.1.length = 0 then xrunF r N f (kf g.1, (tk (kf g.1) r).drop (min (N - g.2.2.length) (tk (kf g.1) r).length), g.2.2 ++ (tk (kf g.1) r).take (min (N - g.2.2.length) (tk (kf g.1) r).length))
       else xrunF r N f (g.1, g.2.1.drop (min (N - g.2.2.length) g.2.1.length), g.2.2 ++ g.2.1.take (min (N - g.2.2.length) g.2.1.length)))
    else g
def xrun (r N : Nat) (g : List UInt64 × List UInt8 × List UInt8) : List UInt64 × List UInt8 × List UInt8 := xrunF r N (N - g.2.2.length) g
theorem xrunF_more (r N : Nat) (hr : 1 ≤ r ∧ r ≤ 200) : ∀ (f m : Nat) (g : List UInt64 × List UInt8 × List UInt8), N - g.2.2.length ≤ f → N - g.2.2.length ≤ m → xrunF r N f g = xrunF r N m g
  | 0, 0, g, _, _ => rfl
  | 0, m + 1, g, h, _ => by rw [xrunF, xrunF, if_neg (by omega)]
  | f + 1, 0, g, _, h => by rw [xrunF, xrunF, if_neg (by omega)]
  | f + 1, m + 1, g, h1, h2 => by
    rw [xrunF, xrunF]
    split
    · have ht := tk_len (kf g.1) r hr.2
      split
      · exact xrunF_more r N hr f m _ (by simp only [List.length_append, List.length_take]; omega) (by simp only [List.length_append, List.length_take]; omega)
      · exact xrunF_more r N hr f m _ (by simp only [List.length_append, List.length_take]; omega) (by simp only [List.length_append, List.length_take]; omega)
    · rfl
theorem xrun_done (r N : Nat) (g : List UInt64 × List UInt8 × List UInt8) (h : ¬ g.2.2.length < N) : xrun r N g = g := by
  unfold xrun; rw [show N - g.2.2.length = 0 by omega]; rfl
theorem xrun_new (r N : Nat) (hr : 1 ≤ r ∧ r ≤ 200) (g : List UInt64 × List UInt8 × List UInt8) (h : g.2.2.length < N) (he : g.2.1.length = 0) :
    xrun r N g = xrun r N (kf g.1, (tk (kf g.1) r).drop (min (N - g.2.2.length) (tk (kf g.1) r).length), g.2.2 ++ (tk (kf g.1) r).take (min (N - g.2.2.length) (tk (kf g.1) r).length)) := by
  have ht := tk_len (kf g.1) r hr.2
  unfold xrun
  rw [xrunF_more r N hr (N - g.2.2.length) (N - g.2.2.length + 1) g (Nat.le_refl _) (by omega), xrunF, if_pos h, if_pos he]
  exact xrunF_more r N hr _ _ _ (by simp only [List.length_append, List.length_take]; omega) (Nat.le_refl _)
theorem xrun_old (r N : Nat) (hr : 1 ≤ r ∧ r ≤ 200) (g : List UInt64 × List UInt8 × List UInt8) (h : g.2.2.length < N) (he : ¬ g.2.1.length = 0) :
    xrun r N g = xrun r N (g.1, g.2.1.drop (min (N - g.2.2.length) g.2.1.length), g.2.2 ++ g.2.1.take (min (N - g.2.2.length) g.2.1.length)) := by
  unfold xrun
  rw [xrunF_more r N hr (N - g.2.2.length) (N - g.2.2.length + 1) g (Nat.le_refl _) (by omega), xrunF, if_pos h, if_neg he]
  exact xrunF_more r N hr _ _ _ (by simp only [List.length_append, List.length_take]; omega) (Nat.le_refl _)
theorem xrunF_len (r N : Nat) : ∀ (f : Nat) (g : List UInt64 × List UInt8 × List UInt8), g.1.length = 25 → (xrunF r N f g).1.length = 25
  | 0, g, h => h
  | f + 1, g, h => by
    rw [xrunF]
    split
    · split
      · have hk := kf_len g.1 h
        generalize kf g.1 = q at *
        exact xrunF_len r N f _ hk
      · exact xrunF_len r N f _ h
    · exact h
theorem xrun_len (r N : Nat) (p : List UInt64 × List UInt8 × List UInt8) (h : p.1.length = 25) : (xrun r N p).1.length = 25 := xrunF_len r N _ p h
end Go.Rx
