/- Plain functions: the codes and the keys; sums that the kernel reckons. -/
import Derived.Test.YtdhgkfmniebghaaDoorAw
import Derived.Test.YtdhgkfmniebghaaDoorSe
namespace Go.Rx
def wiA (p : List UInt8) (c : UInt8) : Nat → List UInt8
  | 0 => p
  | k + 1 => (wiA p c k).set k ((wiA p c k).getD k 0 ^^^ c)
theorem wiA_len (p : List UInt8) (c : UInt8) : ∀ k, (wiA p c k).length = p.length
  | 0 => rfl
  | k + 1 => by rw [wiA, List.length_set, wiA_len p c k]
def wi (p : List UInt8) (c : UInt8) : List UInt8 := wiA p c 136
theorem wi_len (p : List UInt8) (c : UInt8) : (wi p c).length = p.length := wiA_len p c 136
theorem wiA_get (p : List UInt8) (c : UInt8) : ∀ (k i : Nat), k ≤ p.length → (wiA p c k).getD i 0 = if i < k then p.getD i 0 ^^^ c else p.getD i 0
  | 0, i, _ => by rw [wiA, if_neg (by omega)]
  | k + 1, i, hk => by
    rw [wiA, getD_set8 _ _ _ _ (by rw [wiA_len]; omega), wiA_get p c k k (by omega), wiA_get p c k i (by omega), if_neg (Nat.lt_irrefl k)]
    by_cases e : k = i
    · subst e; rw [if_pos rfl, if_pos (by omega)]
    · rw [if_neg e]
      by_cases h : i < k
      · rw [if_pos h, if_pos (by omega)]
      · rw [if_neg h, if_neg (by omega)]
def kk (key : List UInt8) : List UInt8 := if key.length > 136 then sum256 key else key
def macK (k b : List UInt8) : List UInt8 := sum256 [wi (padB 136 k) 92, sum256 [wi (padB 136 k) 54, b].flatten].flatten
def mac (key b : List UInt8) : List UInt8 := macK (kk key) b
theorem macK_len (k b : List UInt8) : (macK k b).length = 32 := by rw [macK, sum256_len]
theorem mac_len (key b : List UInt8) : (mac key b).length = 32 := by rw [mac, macK_len]
theorem mac_short (key b : List UInt8) (h : ¬ key.length > 136) : mac key b = macK key b := by rw [mac, kk, if_neg h]
theorem mac_long (key b : List UInt8) (h : key.length > 136) : mac key b = macK (sum256 key) b := by rw [mac, kk, if_pos h]
def th1 (ck i : List UInt8) : List UInt8 := mac (mac ck i) [1]
def th2 (ck i : List UInt8) : List UInt8 := mac (mac ck i) [th1 ck i, [2]].flatten
def th3 (ck i : List UInt8) : List UInt8 := mac (mac ck i) [th2 ck i, [3]].flatten
theorem th1_len (ck i : List UInt8) : (th1 ck i).length = 32 := by rw [th1, mac_len]
theorem th2_len (ck i : List UInt8) : (th2 ck i).length = 32 := by rw [th2, mac_len]
theorem th3_len (ck i : List UInt8) : (th3 ck i).length = 32 := by rw [th3, mac_len]
theorem rep_step (l : List UInt8) (j : Nat) : (l ++ List.replicate j (0 : UInt8)) ++ [0] = l ++ List.replicate (j + 1) (0 : UInt8) := by rw [List.append_assoc, List.replicate_succ']
/- the document's -/
def inA (k : List UInt8) (c : UInt8) : Nat → List UInt8
  | 0 => []
  | i + 1 => inA k c i ++ [k.getD i 0 ^^^ c]
theorem inA_len (k : List UInt8) (c : UInt8) : ∀ i, (inA k c i).length = i
  | 0 => rfl
  | i + 1 => by rw [inA, List.length_append, inA_len k c i]; rfl
theorem inA_get (k : List UInt8) (c : UInt8) : ∀ (n i : Nat), i < n → (inA k c n).getD i 0 = k.getD i 0 ^^^ c
  | 0, i, h => by omega
  | n + 1, i, h => by
    have hl := inA_len k c n
    rw [inA]
    rcases Nat.lt_or_ge i n with h1 | h1
    · rw [getD_app_l _ _ _ _ (by omega)]; exact inA_get k c n i h1
    · have : i = n := by omega
      subst this
      rw [getD_app_r _ _ _ _ (by omega), hl, Nat.sub_self]; rfl
theorem in_eq (k : List UInt8) (h : k.length ≤ 136) (c : UInt8) : inA (k ++ List.replicate (136 - k.length) (0 : UInt8)) c 136 = wi (padB 136 k) c := by
  apply ext_getD 0 _ _ (by rw [inA_len, wi_len, padB_len])
  intro i hi
  rw [inA_len] at hi
  rw [inA_get _ _ 136 i hi, wi, wiA_get _ _ 136 i (by rw [padB_len]; omega), if_pos hi, padB_get 136 k h]
  rcases Nat.lt_or_ge i k.length with h1 | h1
  · rw [getD_app_l _ _ _ _ h1]
  · rw [getD_app_r _ _ _ _ h1, getD_rep8, getD_map_oob k i 0 h1]
theorem padB_more (k : List UInt8) (n : Nat) (h : k.length + n ≤ 136) : padB 136 (k ++ List.replicate n (0 : UInt8)) = padB 136 k := by
  apply ext_getD 0 _ _ (by rw [padB_len, padB_len])
  intro i _
  rw [padB_get _ _ (by rw [List.length_append, List.length_replicate]; omega), padB_get _ _ (by omega)]
  rcases Nat.lt_or_ge i k.length with h1 | h1
  · rw [getD_app_l _ _ _ _ h1]
  · rw [getD_app_r _ _ _ _ h1, getD_rep8, getD_map_oob k i 0 h1]
theorem mac_more (k : List UInt8) (n : Nat) (b : List UInt8) (h : k.length + n ≤ 136) : mac k b = mac (k ++ List.replicate n (0 : UInt8)) b := by
  rw [mac_short k b (by omega), mac_short (k ++ _) b (by rw [List.length_append, List.length_replicate]; omega), macK, macK, padB_more k n h]
theorem mac_sum (k b : List UInt8) (h : k.length > 136) : mac k b = mac (sum256 k) b := by
  rw [mac_long k b h, mac_short (sum256 k) b (by rw [sum256_len]; omega)]

/- sums by the kernel -/
def absNF (r : Nat) (s : UInt8) : Nat → List Nat → List UInt8 → List Nat
  | 0, a, l => nkf ((lay (a.map UInt64.ofNat) (lastB r s l)).map (·.toNat))
  | n + 1, a, l => bif Nat.ble r l.length then absNF r s n (nkf ((lay (a.map UInt64.ofNat) (l.take r)).map (·.toNat))) (l.drop r) else nkf ((lay (a.map UInt64.ofNat) (lastB r s l)).map (·.toNat))
theorem back_map (a : List UInt64) : (a.map (·.toNat)).map UInt64.ofNat = a := by
  rw [List.map_map]
  have : (UInt64.ofNat ∘ fun x : UInt64 => x.toNat) = id := by funext x; exact UInt64.ofNat_toNat
  rw [this, List.map_id]
theorem absNF_eq (r : Nat) (s : UInt8) : ∀ (n : Nat) (a : List UInt64) (l : List UInt8), a.length = 25 → absNF r s n (a.map (·.toNat)) l = (absF r s n a l).map (·.toNat)
  | 0, a, l, h => by rw [absNF, absF, back_map, nkf_eq _ (by rw [lay_len, h])]
  | n + 1, a, l, h => by
    rw [absNF, absF, back_map, nkf_eq _ (by rw [lay_len, h]), nkf_eq _ (by rw [lay_len, h])]
    have hk := kf_len (lay a (l.take r)) (by rw [lay_len, h])
    generalize kf (lay a (l.take r)) = q at *
    by_cases hr : r ≤ l.length
    · rw [if_pos hr, show Nat.ble r l.length = true from Nat.ble_eq_true_of_le hr, cond_true]
      exact absNF_eq r s n q _ hk
    · rw [if_neg hr, show Nat.ble r l.length = false by rw [← Bool.not_eq_true]; exact fun e => hr (Nat.le_of_ble_eq_true e), cond_false]
def sumE (b : List UInt8) : List UInt8 := tk ((absNF 136 6 b.length (List.replicate 25 0) b).map UInt64.ofNat) 32
theorem sum256_ev (b : List UInt8) : sum256 b = sumE b := by
  have h := absNF_eq 136 6 b.length noughts b List.length_replicate
  rw [show noughts.map (·.toNat) = List.replicate 25 0 by rw [List.map_replicate]; rfl] at h
  rw [sumE, h, back_map]; rfl
theorem mac_ev (k b i : List UInt8) (p q r : List UInt8) (hk : k.length ≤ 136) (hp : wi (padB 136 k) 54 = p) (hq : wi (padB 136 k) 92 = q) (hi : sumE [p, b].flatten = i) (hr : sumE [q, i].flatten = r) : mac k b = r := by
  rw [mac_short k b (by omega), macK, hp, hq, sum256_ev, sum256_ev, hi, hr]
set_option maxRecDepth 100000
theorem mac_nil : mac [] [] = ([232, 65, 193, 100, 229, 180, 241, 12, 159, 57, 133, 88, 121, 98, 175, 114, 253, 96, 122, 149, 17, 150, 252, 146, 251, 58, 82, 81, 148, 23, 132, 234] : List UInt8) :=
  mac_ev [] [] ([181, 21, 66, 255, 28, 47, 74, 148, 195, 135, 192, 202, 215, 170, 191, 107, 205, 226, 177, 45, 134, 19, 168, 113, 30, 144, 125, 139, 255, 115, 78, 217]) (List.replicate 136 54) (List.replicate 136 92) _ (by decide) (by kernel_rfl) (by kernel_rfl) (by kernel_rfl) (by kernel_rfl)
def kcA (c : UInt8) : Nat → List UInt8
  | 0 => []
  | i + 1 => kcA c i ++ [c + UInt8.ofNat i]
theorem kcA_len (c : UInt8) : ∀ i, (kcA c i).length = i
  | 0 => rfl
  | i + 1 => by rw [kcA, List.length_append, kcA_len c i]; rfl
end Go.Rx
