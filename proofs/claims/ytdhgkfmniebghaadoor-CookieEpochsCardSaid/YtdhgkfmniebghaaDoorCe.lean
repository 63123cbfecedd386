/- Plain laws of periods. -/
import Derived.Test.YtdhgkfmniebghaaDoorCa
namespace Go.Rx
theorem aw_yes' : cval [1] (epo 25 10) [104, 101, 114, 101] [112, 97, 99, 107, 101, 116] (sg (mk [1] 2 [104, 101, 114, 101]) [112, 97, 99, 107, 101, 116]) = true := by rw [aw_ep, aw_m]; exact aw_yes
theorem aw_no' : cval [1] (epo 25 10) [116, 104, 101, 114, 101] [112, 97, 99, 107, 101, 116] (sg (mk [1] 2 [104, 101, 114, 101]) [112, 97, 99, 107, 101, 116]) = false := by rw [aw_ep, aw_m]; exact aw_no
theorem epo_nat (now per : UInt64) : (epo now per).toNat = now.toNat / max per.toNat 1 := by rw [epo, UInt64.toNat_div, umax_nat]
theorem ep_mul (now per : UInt64) (p : UInt64) (h : p.toNat = max per.toNat 1) : (epo now per * p).toNat = now.toNat / p.toNat * p.toNat := by
  rw [UInt64.toNat_mul, epo_nat, ← h]
  have h1 := Nat.div_mul_le_self now.toNat p.toNat
  have h2 := now.toNat_lt
  exact Nat.mod_eq_of_lt (Nat.lt_of_le_of_lt h1 h2)
theorem ep_le (now per p : UInt64) (h : p.toNat = max per.toNat 1) : ¬ (((epo now per * p).toNat : Int) > (now.toNat : Int)) := by
  rw [ep_mul now per p h]
  have h1 := Nat.div_mul_le_self now.toNat p.toNat
  omega
theorem ep_lt (now per p : UInt64) (h : p.toNat = max per.toNat 1) : ¬ (((now - epo now per * p).toNat : Int) ≥ (p.toNat : Int)) := by
  have h1 := Nat.div_mul_le_self now.toNat p.toNat
  have h2 := Nat.div_add_mod now.toNat p.toNat
  have h3 := Nat.mod_lt now.toNat (show 0 < p.toNat by omega)
  rw [Nat.mul_comm] at h2
  rw [UInt64.toNat_sub_of_le _ _ (by rw [UInt64.le_iff_toNat_le, ep_mul now per p h]; exact h1), ep_mul now per p h]
  omega
theorem ep_first (now per p : UInt64) (h : p.toNat = max per.toNat 1) : epo (epo now per * p) per = epo now per := by
  apply UInt64.toNat_inj.1
  rw [epo_nat, ep_mul now per p h, epo_nat, ← h, Nat.mul_div_cancel _ (show 0 < p.toNat by omega)]
theorem ep_before (now per p : UInt64) (h : p.toNat = max per.toNat 1) (hn : ¬ epo now per * p = 0) : epo (epo now per * p - 1) per = epo now per - 1 := by
  have hp : 0 < p.toNat := by omega
  have h0 : ¬ (epo now per * p).toNat = 0 := fun e => hn (UInt64.toNat_inj.1 (by rw [e]; rfl))
  have hm := ep_mul now per p h
  have he : 0 < now.toNat / p.toNat := by
    rcases Nat.eq_zero_or_pos (now.toNat / p.toNat) with e | e
    · rw [hm, e, Nat.zero_mul] at h0; exact absurd rfl h0
    · exact e
  have e1 : (1 : UInt64).toNat = 1 := rfl
  apply UInt64.toNat_inj.1
  rw [epo_nat, UInt64.toNat_sub_of_le _ _ (by rw [UInt64.le_iff_toNat_le, e1]; omega), UInt64.toNat_sub_of_le _ _ (by rw [UInt64.le_iff_toNat_le, e1, epo_nat, ← h]; omega), hm, e1, epo_nat, ← h]
  obtain ⟨k, hk⟩ : ∃ k, now.toNat / p.toNat = k + 1 := ⟨now.toNat / p.toNat - 1, by omega⟩
  rw [hk, Nat.add_sub_cancel, Nat.succ_mul]
  have : k * p.toNat + p.toNat - 1 = k * p.toNat + (p.toNat - 1) := by omega
  rw [this, Nat.mul_comm, Nat.mul_add_div hp, Nat.div_eq_of_lt (show p.toNat - 1 < p.toNat by omega), Nat.add_zero]
def lP (per : UInt64) : UInt64 := (per &&& (65535 : UInt64)) + (1 : UInt64)
def lT (now : UInt64) : UInt64 := now &&& (281474976710655 : UInt64)
theorem lP_nat (per : UInt64) : (lP per).toNat = per.toNat % 65536 + 1 := by
  have h : (per &&& (65535 : UInt64)).toNat = per.toNat % 65536 := by
    rw [UInt64.toNat_and, show (65535 : UInt64).toNat = 2 ^ 16 - 1 from rfl, Nat.and_two_pow_sub_one_eq_mod]
  rw [lP, UInt64.toNat_add, h, show (1 : UInt64).toNat = 1 from rfl]; omega
theorem lT_nat (now : UInt64) : (lT now).toNat = now.toNat % 281474976710656 := by
  rw [lT, UInt64.toNat_and, show (281474976710655 : UInt64).toNat = 2 ^ 48 - 1 from rfl, Nat.and_two_pow_sub_one_eq_mod]
theorem lP_pos (per : UInt64) : 0 < (lP per).toNat := by rw [lP_nat]; omega
theorem lend_nat (now per : UInt64) : ((lT now / lP per + 2) * lP per).toNat = ((lT now).toNat / (lP per).toNat + 2) * (lP per).toNat := by
  have hp := lP_nat per; have ht := lT_nat now
  have h1 := Nat.div_mul_le_self (lT now).toNat (lP per).toNat
  have h3 : (lT now).toNat / (lP per).toNat ≤ (lT now).toNat := Nat.div_le_self _ _
  rw [UInt64.toNat_mul, UInt64.toNat_add, UInt64.toNat_div, show (2 : UInt64).toNat = 2 from rfl]
  rw [Nat.mod_eq_of_lt (show (lT now).toNat / (lP per).toNat + 2 < 2 ^ 64 by omega)]
  apply Nat.mod_eq_of_lt
  rw [Nat.add_mul]; omega
theorem lgap (now per : UInt64) : 0 < ((lT now / lP per + 2) * lP per - lT now).toNat ∧ ((lT now / lP per + 2) * lP per - lT now).toNat = ((lT now).toNat / (lP per).toNat + 2) * (lP per).toNat - (lT now).toNat ∧ (lT now).toNat < ((lT now).toNat / (lP per).toNat + 2) * (lP per).toNat := by
  have hp := lP_pos per
  have h2 := Nat.div_add_mod (lT now).toNat (lP per).toNat
  have h3 := Nat.mod_lt (lT now).toNat hp
  rw [Nat.mul_comm] at h2
  have h4 : (lT now).toNat < ((lT now).toNat / (lP per).toNat + 2) * (lP per).toNat := by rw [Nat.add_mul]; omega
  have h5 : ((lT now / lP per + 2) * lP per - lT now).toNat = ((lT now).toNat / (lP per).toNat + 2) * (lP per).toNat - (lT now).toNat := by
    rw [UInt64.toNat_sub_of_le _ _ (by rw [UInt64.le_iff_toNat_le, lend_nat]; omega), lend_nat]
  exact ⟨by omega, h5, h4⟩
theorem lasts (now per later : UInt64) : epo (lT now + later % ((lT now / lP per + 2) * lP per - lT now)) (lP per) = epo (lT now) (lP per) ∨
    (0 < (epo (lT now + later % ((lT now / lP per + 2) * lP per - lT now)) (lP per)).toNat ∧ epo (lT now + later % ((lT now / lP per + 2) * lP per - lT now)) (lP per) - 1 = epo (lT now) (lP per)) := by
  have hp := lP_pos per
  have hpn := lP_nat per; have htn := lT_nat now
  obtain ⟨g1, g2, g3⟩ := lgap now per
  have hr : (later % ((lT now / lP per + 2) * lP per - lT now)).toNat < ((lT now).toNat / (lP per).toNat + 2) * (lP per).toNat - (lT now).toNat := by
    rw [UInt64.toNat_mod, ← g2]; exact Nat.mod_lt _ g1
  generalize later % ((lT now / lP per + 2) * lP per - lT now) = R at *
  have h1 := Nat.div_mul_le_self (lT now).toNat (lP per).toNat
  have hsum : (lT now + R).toNat = (lT now).toNat + R.toNat := by
    rw [UInt64.toNat_add]; apply Nat.mod_eq_of_lt
    rw [Nat.add_mul] at hr g3; omega
  have hlo : (lT now).toNat / (lP per).toNat ≤ ((lT now).toNat + R.toNat) / (lP per).toNat := Nat.div_le_div_right (by omega)
  have hhi : ((lT now).toNat + R.toNat) / (lP per).toNat < (lT now).toNat / (lP per).toNat + 2 := by
    rw [Nat.div_lt_iff_lt_mul hp]; omega
  have hE : (epo (lT now + R) (lP per)).toNat = ((lT now).toNat + R.toNat) / (lP per).toNat := by rw [epo_nat, hsum, show max (lP per).toNat 1 = (lP per).toNat by omega]
  have hF : (epo (lT now) (lP per)).toNat = (lT now).toNat / (lP per).toNat := by rw [epo_nat, show max (lP per).toNat 1 = (lP per).toNat by omega]
  by_cases hc : ((lT now).toNat + R.toNat) / (lP per).toNat = (lT now).toNat / (lP per).toNat
  · left; apply UInt64.toNat_inj.1; rw [hE, hF, hc]
  · right
    refine ⟨by rw [hE]; omega, ?_⟩
    apply UInt64.toNat_inj.1
    rw [UInt64.toNat_sub_of_le _ _ (by rw [UInt64.le_iff_toNat_le, hE, show (1 : UInt64).toNat = 1 from rfl]; omega), hE, hF, show (1 : UInt64).toNat = 1 from rfl]; omega
theorem per_max (per : UInt64) (h : ¬ per = 0) : per.toNat = max per.toNat 1 := by have := per_pos per h; omega
theorem one_max (per : UInt64) (h : per = 0) : (1 : UInt64).toNat = max per.toNat 1 := by subst h; rfl
end Go.Rx
