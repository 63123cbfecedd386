/- What a reader gives is the document's stream. -/
import Derived.Test.YtaignhikdfpbbaaDoorSe
namespace Go.Rx
theorem xrunF_le (r N : Nat) (hr : 1 ≤ r ∧ r ≤ 200) : ∀ (f : Nat) (g : List UInt64 × List UInt8 × List UInt8), g.2.1.length ≤ 200 → (xrunF r N f g).2.1.length ≤ 200
  | 0, g, h => h
  | f + 1, g, h => by
    have hk := tk_len (kf g.1) r hr.2
    rw [xrunF]
    generalize kf g.1 = q at *
    split
    · split
      · exact xrunF_le r N hr f _ (by simp only [List.length_drop]; omega)
      · exact xrunF_le r N hr f _ (by simp only [List.length_drop]; omega)
    · exact h
theorem xrun_le (r N : Nat) (hr : 1 ≤ r ∧ r ≤ 200) (g : List UInt64 × List UInt8 × List UInt8) (h : g.2.1.length ≤ 200) : (xrun r N g).2.1.length ≤ 200 := xrunF_le r N hr _ g h
/-- T has come out, l is left: together so many blocks. -/
def RInv (p : List UInt64) (r : Nat) (T : List UInt8) (a : List UInt64) (l : List UInt8) : Prop := ∃ i, a = fpow p i ∧ T ++ l = roA p r (i + 1)
theorem fpow_succ (p : List UInt64) (h : p.length = 25) (i : Nat) : kf (fpow p i) = fpow p (i + 1) := by rw [fpow, fast_eq _ (fpow_len p h i)]
theorem xrunF_inv (p : List UInt64) (hp : p.length = 25) (r N : Nat) (hr : 1 ≤ r ∧ r ≤ 200) : ∀ (f : Nat) (g : List UInt64 × List UInt8 × List UInt8) (T : List UInt8), RInv p r (T ++ g.2.2) g.1 g.2.1 → N - g.2.2.length ≤ f → g.2.2.length ≤ N →
    RInv p r (T ++ (xrunF r N f g).2.2) (xrunF r N f g).1 (xrunF r N f g).2.1 ∧ (xrunF r N f g).2.2.length = N
  | 0, g, T, h, hf, hl => ⟨h, by show g.2.2.length = N; omega⟩
  | f + 1, g, T, h, hf, hl => by
    rw [xrunF]
    split
    · rename_i hN
      obtain ⟨i, h1, h2⟩ := h
      split
      · rename_i h0
        have hk : kf g.1 = fpow p (i + 1) := by rw [h1, fpow_succ p hp]
        have ht := tk_len (kf g.1) r hr.2
        have hb : roA p r (i + 1 + 1) = roA p r (i + 1) ++ tk (kf g.1) r := by rw [roA, ← hk, rby_eq]; rfl
        have hnil : g.2.1 = [] := List.eq_nil_of_length_eq_zero h0
        rw [hnil, List.append_nil] at h2
        generalize kf g.1 = q at *
        refine xrunF_inv p hp r N hr f _ T ⟨i + 1, hk, ?_⟩ (by simp only [List.length_append, List.length_take]; omega) (by simp only [List.length_append, List.length_take]; omega)
        show (T ++ (g.2.2 ++ (tk q r).take _)) ++ (tk q r).drop _ = _
        rw [hb, ← h2, List.append_assoc, List.append_assoc, List.append_assoc, List.take_append_drop]
      · rename_i h0
        refine xrunF_inv p hp r N hr f _ T ⟨i, h1, ?_⟩ (by simp only [List.length_append, List.length_take]; omega) (by simp only [List.length_append, List.length_take]; omega)
        show (T ++ (g.2.2 ++ g.2.1.take _)) ++ g.2.1.drop _ = _
        rw [← h2, List.append_assoc, List.append_assoc, List.append_assoc, List.take_append_drop]
    · exact ⟨h, by omega⟩
theorem xrun_inv (p : List UInt64) (hp : p.length = 25) (r N : Nat) (hr : 1 ≤ r ∧ r ≤ 200) (T : List UInt8) (a : List UInt64) (l : List UInt8) (h : RInv p r T a l) :
    RInv p r (T ++ (xrun r N (a, l, [])).2.2) (xrun r N (a, l, [])).1 (xrun r N (a, l, [])).2.1 ∧ (xrun r N (a, l, [])).2.2.length = N :=
  xrunF_inv p hp r N hr _ (a, l, []) T (by show RInv p r (T ++ []) a l; rw [List.append_nil]; exact h) (Nat.le_refl _) (Nat.zero_le _)
theorem RInv.start (p : List UInt64) (r : Nat) : RInv p r [] p (tk p r) := ⟨0, rfl, by show tk p r = [] ++ (rby (fpow p 0)).take r; rw [List.nil_append, rby_eq]; rfl⟩
theorem RInv.out {p : List UInt64} {r : Nat} {T : List UInt8} {a : List UInt64} {l : List UInt8} (h : RInv p r T a l) (hr : 1 ≤ r ∧ r ≤ 200) : T = sqz p r T.length := by
  obtain ⟨i, _, h2⟩ := h
  have e : T = (roA p r (i + 1)).take T.length := by rw [← h2, List.take_left]
  rw [sqz, ← roA_take p r T.length (i + 1) hr (by rw [← h2, List.length_append]; omega)]
  exact e
theorem xr_len (p : List UInt64) (hp : p.length = 25) (r N : Nat) (hr : 1 ≤ r ∧ r ≤ 200) : (xrun r N (p, tk p r, [])).2.2.length = N := (xrun_inv p hp r N hr [] p (tk p r) (RInv.start p r)).2
theorem xr_sqz (p : List UInt64) (hp : p.length = 25) (r N : Nat) (hr : 1 ≤ r ∧ r ≤ 200) : (xrun r N (p, tk p r, [])).2.2 = sqz p r N := by
  have h := xrun_inv p hp r N hr [] p (tk p r) (RInv.start p r)
  have h1 := h.1.out hr
  rw [List.nil_append, h.2] at h1
  exact h1
theorem xr_split (p : List UInt64) (hp : p.length = 25) (r i j N : Nat) (hr : 1 ≤ r ∧ r ≤ 200) (hN : N = i + j) :
    (xrun r N (p, tk p r, [])).2.2 = (xrun r i (p, tk p r, [])).2.2 ++ (xrun r j ((xrun r i (p, tk p r, [])).1, (xrun r i (p, tk p r, [])).2.1, [])).2.2 := by
  have h := xrun_inv p hp r i hr [] p (tk p r) (RInv.start p r)
  rw [List.nil_append] at h
  have h2 := xrun_inv p hp r j hr _ _ _ h.1
  have h3 := h2.1.out hr
  rw [List.length_append, h.2, h2.2] at h3
  rw [h3, xr_sqz p hp r N hr, hN]
theorem xr_add (p : List UInt64) (hp : p.length = 25) (r i j : Nat) (hr : 1 ≤ r ∧ r ≤ 200) :
    (xrun r i (p, tk p r, [])).2.2.length + (xrun r j ((xrun r i (p, tk p r, [])).1, (xrun r i (p, tk p r, [])).2.1, [])).2.2.length = i + j := by
  rw [← List.length_append, ← xr_split p hp r i j (i + j) hr rfl, xr_len p hp r (i + j) hr]
/-- A reader asked piece by piece. -/
def rdA (r : Nat) (p : List UInt64) (q : List Int) : Nat → List UInt64 × List UInt8 × List UInt8
  | 0 => (p, tk p r, [])
  | i + 1 => ((xrun r (q.getD i 0).toNat ((rdA r p q i).1, (rdA r p q i).2.1, [])).1, (xrun r (q.getD i 0).toNat ((rdA r p q i).1, (rdA r p q i).2.1, [])).2.1,
      (rdA r p q i).2.2 ++ (xrun r (q.getD i 0).toNat ((rdA r p q i).1, (rdA r p q i).2.1, [])).2.2)
theorem rdA_0a (r : Nat) (p : List UInt64) (q : List Int) : (rdA r p q 0).1 = p := by rw [rdA]
theorem rdA_0l (r : Nat) (p : List UInt64) (q : List Int) : (rdA r p q 0).2.1 = tk p r := by rw [rdA]
theorem rdA_0o (r : Nat) (p : List UInt64) (q : List Int) : (rdA r p q 0).2.2 = [] := by rw [rdA]
theorem rdA_sa (r : Nat) (p : List UInt64) (q : List Int) (i : Nat) : (rdA r p q (i + 1)).1 = (xrun r (q.getD i 0).toNat ((rdA r p q i).1, (rdA r p q i).2.1, [])).1 := by rw [rdA]
theorem rdA_sl (r : Nat) (p : List UInt64) (q : List Int) (i : Nat) : (rdA r p q (i + 1)).2.1 = (xrun r (q.getD i 0).toNat ((rdA r p q i).1, (rdA r p q i).2.1, [])).2.1 := by rw [rdA]
theorem rdA_so (r : Nat) (p : List UInt64) (q : List Int) (i : Nat) : (rdA r p q (i + 1)).2.2 = (rdA r p q i).2.2 ++ (xrun r (q.getD i 0).toNat ((rdA r p q i).1, (rdA r p q i).2.1, [])).2.2 := by rw [rdA]
theorem rdA_len (r : Nat) (p : List UInt64) (hp : p.length = 25) (q : List Int) : ∀ i, (rdA r p q i).1.length = 25
  | 0 => hp
  | i + 1 => xrun_len _ _ _ (rdA_len r p hp q i)
theorem rdA_inv (r : Nat) (hr : 1 ≤ r ∧ r ≤ 200) (p : List UInt64) (hp : p.length = 25) (q : List Int) : ∀ i, RInv p r (rdA r p q i).2.2 (rdA r p q i).1 (rdA r p q i).2.1
  | 0 => RInv.start p r
  | i + 1 => (xrun_inv p hp r _ hr _ _ _ (rdA_inv r hr p hp q i)).1
theorem rdA_le (r : Nat) (hr : 1 ≤ r ∧ r ≤ 200) (p : List UInt64) (q : List Int) : ∀ i, (rdA r p q i).2.1.length ≤ 200
  | 0 => by show (tk p r).length ≤ 200; rw [tk_len _ _ hr.2]; omega
  | i + 1 => xrun_le _ _ hr _ (rdA_le r hr p q i)
def sumQ (q : List Int) : Nat → Nat
  | 0 => 0
  | i + 1 => sumQ q i + (q.getD i 0).toNat
theorem rdA_out (r : Nat) (hr : 1 ≤ r ∧ r ≤ 200) (p : List UInt64) (hp : p.length = 25) (q : List Int) : ∀ i, (rdA r p q i).2.2.length = sumQ q i
  | 0 => rfl
  | i + 1 => by
    rw [rdA, sumQ, List.length_append, rdA_out r hr p hp q i, (xrun_inv p hp r _ hr _ _ _ (rdA_inv r hr p hp q i)).2]
theorem rdA_eq (r : Nat) (hr : 1 ≤ r ∧ r ≤ 200) (p : List UInt64) (hp : p.length = 25) (q : List Int) (i : Nat) : (rdA r p q i).2.2 = sqz p r (rdA r p q i).2.2.length := (rdA_inv r hr p hp q i).out hr
def xffA (l : List UInt8) : Nat → List UInt8
  | 0 => l
  | k + 1 => (xffA l k).set k ((xffA l k).getD k 0 ^^^ 255)
theorem xffA_len (l : List UInt8) : ∀ k, (xffA l k).length = l.length
  | 0 => rfl
  | k + 1 => by rw [xffA, List.length_set, xffA_len l k]
end Go.Rx
