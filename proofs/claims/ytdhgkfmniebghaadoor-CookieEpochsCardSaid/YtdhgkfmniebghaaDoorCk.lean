/- Plain functions: periods, cookies, codes. -/
import Derived.Test.YtdhgkfmniebghaaDoorHk
import Derived.Test.YtdhgkfmniebghaaDoorRxI
namespace Go.Rx
def epo (now per : UInt64) : UInt64 := now / umax per 1
theorem umax_pos (p : UInt64) : 0 < (umax p 1).toNat := by
  unfold umax
  split
  · decide
  · rename_i h; have : ¬ p < 1 := h; rw [UInt64.lt_iff_toNat_lt] at this; have e : (1 : UInt64).toNat = 1 := rfl; omega
theorem umax_nat (p : UInt64) : (umax p 1).toNat = max p.toNat 1 := by
  have e : (1 : UInt64).toNat = 1 := rfl
  unfold umax
  split
  · rename_i h; rw [gt_iff_lt, UInt64.lt_iff_toNat_lt] at h; omega
  · rename_i h; rw [gt_iff_lt, UInt64.lt_iff_toNat_lt] at h; omega
theorem epo_z (now per : UInt64) (h : per = 0) : now = epo now per := by
  subst h
  apply UInt64.toNat_inj.1
  rw [epo, UInt64.toNat_div, umax_nat]; simp
theorem epo_nz (now per : UInt64) (h : ¬ per = 0) : now / per = epo now per := by
  have h0 : ¬ per.toNat = 0 := fun e => h (UInt64.toNat_inj.1 (by rw [e]; rfl))
  apply UInt64.toNat_inj.1
  rw [epo, UInt64.toNat_div, UInt64.toNat_div, umax_nat, show max per.toNat 1 = per.toNat by omega]
theorem per_pos (per : UInt64) (h : ¬ per = 0) : 0 < per.toNat := by
  have h0 : ¬ per.toNat = 0 := fun e => h (UInt64.toNat_inj.1 (by rw [e]; rfl))
  omega
def sg (c s : List UInt8) : List UInt8 := (mac c s).take 16
theorem sg_cut (c s : List UInt8) : ((mac c s).drop 0).take (16 - 0) = sg c s := by rw [sg, List.drop_zero]
theorem sg_len (c s : List UInt8) : (sg c s).length = 16 := by rw [sg, List.length_take, mac_len]; rfl
def mk (secret : List UInt8) (e : UInt64) (src : List UInt8) : List UInt8 := sg (mac secret (st8 e)) src
theorem mk_len (secret : List UInt8) (e : UInt64) (src : List UInt8) : (mk secret e src).length = 16 := sg_len _ _
def cvA (secret : List UInt8) (e : UInt64) (src signed m : List UInt8) : Nat → Bool
  | 0 => false
  | k + 1 => decide (sg (mk secret (e - UInt64.ofNat k) src) signed = m) || cvA secret e src signed m k
theorem cvA_t (secret : List UInt8) (e : UInt64) (src signed m : List UInt8) (k : Nat) (h : sg (mk secret (e - UInt64.ofNat k) src) signed = m) : true = cvA secret e src signed m (k + 1) := by rw [cvA, decide_eq_true h, Bool.true_or]
theorem cvA_f (secret : List UInt8) (e : UInt64) (src signed m : List UInt8) (k : Nat) (h : ¬ sg (mk secret (e - UInt64.ofNat k) src) signed = m) : cvA secret e src signed m k = cvA secret e src signed m (k + 1) := by rw [cvA, decide_eq_false h, Bool.false_or]
def cval (secret : List UInt8) (e : UInt64) (src signed m : List UInt8) : Bool := cvA secret e src signed m (umin e 1 + 1).toNat
theorem umin_nat (e : UInt64) : (umin e 1 + 1).toNat = min e.toNat 1 + 1 := by
  have e1 : (1 : UInt64).toNat = 1 := rfl
  unfold umin
  split
  · rename_i h; rw [UInt64.lt_iff_toNat_lt] at h
    rw [show ((1 : UInt64) + 1).toNat = 2 from rfl]; omega
  · rename_i h; rw [UInt64.lt_iff_toNat_lt] at h
    rw [UInt64.toNat_add, e1]
    have := e.toNat_lt
    show (e.toNat + 1) % 18446744073709551616 = _
    omega
theorem ofNat_succ64 (k : Nat) : UInt64.ofNat k + 1 = UInt64.ofNat (k + 1) := by
  apply UInt64.toNat_inj.1
  rw [UInt64.toNat_add, UInt64.toNat_ofNat', UInt64.toNat_ofNat', show (1 : UInt64).toNat = 1 from rfl]; omega
theorem cval_a (secret : List UInt8) (e : UInt64) (src signed m : List UInt8) (h : sg (mk secret e src) signed = m) : cval secret e src signed m = true := by
  rw [cval, umin_nat]
  rcases Nat.eq_zero_or_pos e.toNat with h0 | h0
  · rw [h0, show min 0 1 + 1 = 1 from rfl, cvA, cvA, show e - UInt64.ofNat 0 = e by simp, decide_eq_true h]; rfl
  · rw [show min e.toNat 1 + 1 = 2 by omega, cvA, cvA, cvA, show e - UInt64.ofNat 0 = e by simp, decide_eq_true h]; simp
theorem cval_b (secret : List UInt8) (e : UInt64) (src signed m : List UInt8) (h : ¬ sg (mk secret e src) signed = m) (h0 : e.toNat = 0) : cval secret e src signed m = false := by
  rw [cval, umin_nat, h0, show min 0 1 + 1 = 1 from rfl, cvA, cvA, show e - UInt64.ofNat 0 = e by simp, decide_eq_false h]; rfl
theorem cval_c (secret : List UInt8) (e : UInt64) (src signed m : List UInt8) (h : ¬ sg (mk secret e src) signed = m) (h0 : 0 < e.toNat) : cval secret e src signed m = decide (sg (mk secret (e - 1) src) signed = m) := by
  rw [cval, umin_nat, show min e.toNat 1 + 1 = 2 by omega, cvA, cvA, cvA, show e - UInt64.ofNat 0 = e by simp, decide_eq_false h]; simp
theorem cval_d (secret : List UInt8) (e e0 : UInt64) (src signed : List UInt8) (h : e = e0 ∨ (0 < e.toNat ∧ e - 1 = e0)) : cval secret e src signed (sg (mk secret e0 src) signed) = true := by
  rcases h with rfl | ⟨h0, rfl⟩
  · exact cval_a _ _ _ _ _ rfl
  · by_cases hc : sg (mk secret e src) signed = sg (mk secret (e - 1) src) signed
    · exact cval_a _ _ _ _ _ hc
    · rw [cval_c _ _ _ _ _ hc h0, decide_eq_true rfl]
end Go.Rx
